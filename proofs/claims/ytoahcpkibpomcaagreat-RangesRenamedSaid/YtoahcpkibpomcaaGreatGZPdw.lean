/- Part of a proof. -/
import Derived.Test.YtoahcpkibpomcaaGreatGZx3w
import Derived.Test.YtoahcpkibpomcaaGreatMkXw
set_option linter.unusedSectionVars false
set_option linter.all false
set_option maxHeartbeats 8000000
set_option maxRecDepth 100000
namespace Go.Proofs.YtoahcpkibpomcaaGreat
open Go.RowKit
variable {o:IOp}{c d g8 i j k o5 p1 u:Nat}{T kd x:Int}{v':Int->Nat}{call call':ae1}{xs:List Int}{w wx:World}{pc:List Value}{gv:Value}{bs gl:List BT}{nb:BT}{ns o1 o2:List Nat}{bl:List IBlk}
theorem acZ {f:List IBlk}{b:IBlk}(h:b∈f):b.ops.length<=opsN f:=by
 unfold opsN
 induction f with
 |nil=>cases h
 |cons x f ih=>
  rw[Ql,List.sum_cons];rcases Jq.1 h with rfl|h
  ·omega
  ·have:=ih h;omega
theorem opF_args{p:IProg}(c:∀i,p.args.getD i 0<=8)(h:opF p o=true):o.args.length<=8:=by
 unfold opF at h;rw[Jm] at h;have h2:=h.2
 split at h2
 ·simp only[Jm,decide_eq_true_eq] at h2;have:=c o.a.toNat;omega
 ·split at h2
  ·simp only[Jm,decide_eq_true_eq] at h2;omega
  ·simp only[Jm,decide_eq_true_eq] at h2;omega
theorem acK (s:List Int):SmP 15000 (uR s):=by
 have j:=sm s;refine⟨by rw[qA];omega,fun f hf=>?_,by show(yS s (mdN s)).length<=_;rw[yY];omega,by show 3<=15000;decide,by show 1<=15000;decide⟩;obtain⟨k,hk⟩:=Ny hf;have c:=(Jh.1 hk).1;rw[qA] at c;rcases kz s c with⟨h,_⟩|h
 ·rw[hk] at h;cases h;exact⟨by simp,fun b hb=>by cases hb⟩
 ·rw[hk] at h;cases h;obtain⟨pl,h1,_⟩:=gJ (gi s k) (zg s k).2;have g:=lz s k c;have ho:=h1.ops;obtain⟨cur,vals,d⟩:=h1;generalize xR (xC s k) (zg s k).2=M at *;unfold MS.sz at g;refine⟨by omega,fun b hb=>?_⟩;obtain⟨i,hi⟩:=Ny hb;have h3:=d.sml i b hi;have l:=acZ hb;refine⟨by omega,by omega,by omega,fun o hoo=>?_,fun e he=>?_⟩
  ·have:=opF_args (fun i=>by have:=gP s i;show(yS s (mdN s)).getD i 0<=8;omega) (ho b hb o hoo);omega
  ·obtain⟨s',u,bs,_,_,e3,e4,_⟩:=(d.term i b hi (fun e=>e)).2.1 e he;have:=(d.sml s' bs e3).1;omega
theorem tD (x:Int)(h1:-1000000<=x)(h2:x<=1000000):I64 x:=⟨by omega,by omega⟩
def rnL (T:Int)(l:List Int):List Int:=l.map fun v=>T-v
def abE (T:Int)(o:IOp):IOp:=
 ⟨o.code,if 0<=o.res then T-o.res else o.res,if(zi o.code).a then T-o.a else o.a,if(zi o.code).b then T-o.b else o.b,o.n,rnL T o.args⟩
def rnE (T:Int)(n:Nat)(e:IEdge):IEdge:=⟨((n:Int)-e.block).tmod n,rnL T e.args⟩
def rnA (T:Int)(t:ITerm):Int:=if t.kind=2∨t.kind=3∨(t.kind=4/\0<=t.a) then T-t.a else t.a
def rnT (T:Int)(n:Nat)(t:ITerm):ITerm:=⟨t.kind,rnA T t,t.to.map (rnE T n)⟩
def rnB (T:Int)(n:Nat)(b:IBlk):IBlk:=⟨rnL T b.params,b.ops.map (abE T),rnT T n b.term⟩
def rnP (n i:Nat):Nat:=(n-i)%n
def abC (T:Int)(f:List IBlk):List IBlk:=(List.range f.length).map fun i=>rnB T f.length (f.getD (rnP f.length i) ⟨[],[],⟨0,0,[]⟩⟩)
def rnF (T:Int)(p:IProg):IProg:= {p with funcs:=p.funcs.map (abC T)}
theorem abS{n:Nat}(h:0<n):rnP n i<n:=Qj _ h
theorem abb (n:Nat):rnP n 0=0:=by unfold rnP;rw[Nat.sub_zero,Nat.mod_self]
theorem abR{n:Nat}(c:0<i)(h:i<n):rnP n i=n-i:=Nat.mod_eq_of_lt Zo
theorem aaV{n:Nat}(h:i<n):rnP n (rnP n i)=i:=by
 rcases Nat.eq_zero_or_pos i with rfl|c
 ·rw[abb,abb]
 ·rw[abR c h,abR Zo Zo];omega
theorem abx (T:Int)(f:List IBlk):(abC T f).length=f.length:=by unfold abC;rw[Nr,Un]
theorem abM{f:List IBlk}(hi:i<f.length){b:IBlk}(hb:f[i]? =some b):(abC T f)[rnP f.length i]? =some (rnB T f.length b):=by
 unfold abC;rw[Jr,Oh (abS Zo),Option.map_some,aaV hi,Jj,hb];rfl
theorem act{f:List IBlk}{b':IBlk}(hb:(abC T f)[i]? =some b'):i<f.length/\∃b,f[rnP f.length i]? =some b/\b'=rnB T f.length b:=by
 have hi:=(Jh.1 hb).1;rw[abx] at hi;have h1:=abS (n:=f.length) (i:=i) Zo;refine⟨hi,_,Jd h1,?_⟩;have h2:=abM (T:=T) h1 (Jd h1);rw[aaV hi,hb] at h2;cases h2;rfl
theorem ab3{n:Nat}{e:IEdge}(c:1<=e.block)(h:e.block<(n:Int)):(rnE T n e).block=(n:Int)-e.block/\(rnE T n e).block.toNat=rnP n e.block.toNat:=by
 have e1:(rnE T n e).block=(n:Int)-e.block:=by
  show((n:Int)-e.block).tmod n=_
  exact Int.tmod_eq_of_lt Zo Zo
 refine⟨e1,?_⟩;rw[e1,abR Zo Zo];omega
def acR (T:Int)(v v':Int->Nat):Prop:=∀x,v' (T-x)=v x
theorem acR.upd{v:Int->Nat}(h:acR T v v')(x:Int)(r:Nat):acR T (iY v x r) (iY v' (T-x) r):=fun y=>by
 unfold iY
 by_cases e:y=x
 ·rw[if_pos e,if_pos Zo]
 ·rw[if_neg e,if_neg Zo];exact h y
theorem acR.map{v:Int->Nat}(h:acR T v v')(l:List Int):(rnL T l).map v'=l.map v:=by
 unfold rnL;rw[List.map_map];exact Up fun x _=>h x
theorem acR.bind:∀(ps:List Int) (xs:List Nat) {v v':Int->Nat},acR T v v'->acR T (r7 ps xs v) (r7 (rnL T ps) xs v')
 | [],_,_,_,h=>h
 |_::_,[],_,_,h=>h
 |p::ps,a::xs,v,v',h=>acR.bind ps xs (h.upd p a)
theorem acL(E:IEnv){o':IOp}(g:o'.code=o.code)(d:o'.n=o.n)(h2:o.code=2->o'.a=o.a){a a' b b':Nat}(c:(zi o.code).a=true->a'=a)(hb:(zi o.code).b=true->b'=b)(m:Mach)(h1:1<=o.code/\o.code<=25):
 mU E o' a' b' m=mU E o a b m:=by
 unfold mU;rw[g,d]
 by_cases e2:o.code=2
 ·rw[h2 e2];simp[e2]
 rcases rJ o.code with⟨h,e⟩|⟨h,e⟩|⟨h,e⟩|⟨h,e⟩|⟨h,e⟩|⟨h,e⟩|⟨h,e⟩|⟨h,e⟩
 ·rcases h with h|h|h<;>simp[h]<;>omega
 ·rw[c (by rw[e])];rcases h with h|h|h|h<;>simp[h]
 ·rw[c (by rw[e]),hb (by rw[e])];simp only[e2,if_false]
 ·rw[c (by rw[e]),hb (by rw[e])];rcases h with h|h<;>simp[h]
 ·rw[c (by rw[e])];rcases h with h|h<;>simp[h]
 ·rw[c (by rw[e])];simp[h]
 ·omega
 ·omega
structure RnB (T:Int) (f:List IBlk) (b:IBlk):Prop where
 ops:∀o∈b.ops,(1<=o.code/\o.code<=27)/\o.res<=T
 kind:b.term.kind=4->b.term.a=-1∨(0<=b.term.a/\b.term.a<=T)
 edg:∀e∈b.term.to,1<=e.block/\e.block<(f.length:Int)
 okt:bS f b.term
def ResR (T:Int)(r r':Res (Int->Nat)):Prop:=
 match r with
 |.ok v m=>∃v',r'=.ok v' m/\acR T v v'
 |.trap k i m=>r'=.trap k i m
theorem rn_alike (T:Int)(p:IProg)(inn irq:List Nat)(o:IOp)(a b:Nat)(m:Mach):mU ⟨rnF T p,inn,irq⟩ o a b m=mU ⟨p,inn,irq⟩ o a b m:=rfl
theorem step_ren{p:IProg}{inn irq:List Nat}(g:∀f args m,call' f args m=call f args m)(ho:1<=o.code/\o.code<=27){v:Int->Nat}(hv:acR T v v')(m:Mach):
 oV ⟨rnF T p,inn,irq⟩ call' (abE T o) v' m=oV ⟨p,inn,irq⟩ call o v m:=by
 unfold oV;have e1:(abE T o).code=o.code:=rfl;rw[e1]
 by_cases c:o.code=26
 ·rw[if_pos c,if_pos c]
  have:(abE T o).a=o.a:=by
   show(if(zi o.code).a then T-o.a else o.a)=_
   rw[c];rfl
  rw[this,g]
  show call o.a ((rnL T o.args).map v') m=_
  rw[hv.map]
 rw[if_neg c,if_neg c]
 by_cases d:o.code=27
 ·rw[if_pos d,if_pos d];unfold tY;simp only[g];rfl
 rw[if_neg d,if_neg d,rn_alike];refine acL (o:=o) (o':=abE T o) (a:=v o.a) (a':=v' (abE T o).a) (b:=v o.b) (b':=v' (abE T o).b) _ rfl rfl (fun e=>?_) (fun e=>?_) (fun e=>?_) m ⟨by omega,by omega⟩
 ·show(if(zi o.code).a then T-o.a else o.a)=_
  rw[e];rfl
 ·show v' (if(zi o.code).a then T-o.a else o.a)=_
  rw[if_pos e];exact hv _
 ·show v' (if(zi o.code).b then T-o.b else o.b)=_
  rw[if_pos e];exact hv _
theorem adM{p:IProg}{inn irq:List Nat}(c:∀f args m,call' f args m=call f args m):∀(os:List IOp) {v v':Int->Nat} (m:Mach),(∀o∈os,(1<=o.code/\o.code<=27)/\o.res<=T)->acR T v v'->
 ResR T (iq ⟨p,inn,irq⟩ call os v m) (iq ⟨rnF T p,inn,irq⟩ call' (os.map (abE T)) v' m)
 | [],v,v',m,_,hv=>⟨v',rfl,hv⟩
 |o::os,v,v',m,ho,hv=>by
  rw[Ql];unfold iq
  by_cases h0:m.fuel<=0
  ·rw[if_pos h0,if_pos h0];exact rfl
  ·rw[if_neg h0,if_neg h0,step_ren c (ho o (.head _)).1 hv]
   cases oV ⟨p,inn,irq⟩ call o v m.pay with
   |trap k i m1=>exact rfl
   |ok x m1=>
    refine adM c os m1 (fun q hq=>ho q (.tail _ hq)) ?_
    show acR T (setV v o.res x) (setV v' (if 0<=o.res then T-o.res else o.res) x)
    unfold setV;have:=(ho o (.head _)).2
    by_cases h:0<=o.res
    ·rw[if_pos h,if_pos h,if_pos Zo];exact hv.upd _ _
    ·rw[if_neg h,if_neg h,if_neg h];exact hv
theorem ac3 {α β:Type}(g:α->β)(l:List α)(i:Nat)(d:α):(l.map g).getD i (g d)=g (l.getD i d):=by
 rw[Jj,Jj,Jr];cases l[i]?<;>rfl
theorem rnE_zero (T:Int)(n:Nat):rnE T n ⟨0,[]⟩=⟨0,[]⟩:=by
 unfold rnE;rw[Int.sub_zero,Int.tmod_self];rfl
theorem edge_ren (T:Int)(n:Nat)(t:ITerm)(a:Nat):wK (rnT T n t) a=rnE T n (wK t a):=by
 have hg:∀i,(t.to.map (rnE T n)).getD i ⟨0,[]⟩=rnE T n (t.to.getD i ⟨0,[]⟩):=fun i=>by
  have:=ac3 (rnE T n) t.to i ⟨0,[]⟩;rw[rnE_zero] at this;exact this
 unfold wK rnT;simp only[Nr,hg]
 split
 ·rfl
 ·split<;>rfl
theorem acu{f:List IBlk}{at':Int}(c:0<=at')(h:at'<(f.length:Int)):xz (abC T f) ((rnP f.length at'.toNat:Nat):Int)=rnB T f.length (xz f at'):=by
 have hi:at'.toNat<f.length:=Zo;obtain⟨b,hb⟩:∃b,f[at'.toNat]? =some b:=⟨_,Jd hi⟩
 unfold xz;rw[Ni,Jj,abM hi hb,Jj,hb];rfl
theorem acq{p:IProg}{inn irq:List Nat}(t:∀f args m,call' f args m=call f args m){f:List IBlk}(hf:∀b∈f,RnB T f b):∀(n:Nat) (at':Int) (args:List Nat) {v v':Int->Nat} (m:Mach),0<=at'->at'<(f.length:Int)->acR T v v'->
 tJ ⟨rnF T p,inn,irq⟩ call' (abC T f) n ((rnP f.length at'.toNat:Nat):Int) args v' m=tJ ⟨p,inn,irq⟩ call f n at' args v m
 |0,_,_,_,_,_,_,_,_=>rfl
 |n+1,at',args,v,v',m,h0,hl,hv=>by
  have hi:at'.toNat<f.length:=Zo;obtain⟨b,hb⟩:∃b,f[at'.toNat]? =some b:=⟨_,Jd hi⟩
  have w:xz f at'=b:=by unfold xz;rw[Jj,hb];rfl
  have hB:=hf b (Ji hb);unfold tJ;rw[acu h0 hl,w];have h1:=adM (p:=p) (inn:=inn) (irq:=irq) t b.ops m hB.ops (hv.bind b.params args)
  show(match iq _ call' (b.ops.map (abE T)) (r7 (rnL T b.params) args v') m with|.trap k i m'=>_|.ok v2 m2=>_)=_
  generalize iq ⟨p,inn,irq⟩ call b.ops (r7 b.params args v) m=r at *;generalize iq ⟨rnF T p,inn,irq⟩ call' (b.ops.map (abE T)) (r7 (rnL T b.params) args v') m=r' at *
  cases r with
  |trap k i m1=>rw[show r'=_ from h1]
  |ok v2 m2=>
   obtain⟨v2',e,c⟩:=h1;rw[e]
   dsimp only
   by_cases j:m2.fuel<=0
   ·rw[if_pos j,if_pos j]
   rw[if_neg j,if_neg j];have ek:(rnB T f.length b).term.kind=b.term.kind:=rfl;have ea:(rnB T f.length b).term.a=rnA T b.term:=rfl;rw[ek,ea]
   by_cases d:b.term.kind=4
   ·rw[if_pos d,if_pos d];have hk:=hB.kind d
    by_cases hm:b.term.a=-1
    ·have e4:rnA T b.term=-1:=by unfold rnA;rw[if_neg Zo,hm]
     rw[e4,if_pos hm];rfl
    ·have e4:rnA T b.term=T-b.term.a:=by unfold rnA;rw[if_pos Zo]
     rw[e4,if_neg Zo,if_neg hm,c]
   rw[if_neg d,if_neg d]
   by_cases h:b.term.kind=5
   ·rw[if_pos h,if_pos h]
   rw[if_neg h,if_neg h]
   have o:∀(hk:b.term.kind=2∨b.term.kind=3),v2' (rnA T b.term)=v2 b.term.a:=fun hk=>by
    unfold rnA;rw[if_pos Zo,c]
   have l:wK (rnB T f.length b).term (v2' (rnA T b.term))=rnE T f.length (wK b.term (v2 b.term.a)):=by
    show wK (rnT T f.length b.term) _=_
    rw[edge_ren]
    congr 1
    by_cases hk:b.term.kind=2∨b.term.kind=3
    ·rw[o hk]
    ·unfold wK;rw[if_neg Zo,if_neg Zo,if_neg Zo,if_neg Zo]
   rw[l];have hm:=lL hB.okt d h (v2 b.term.a);generalize wK b.term (v2 b.term.a)=ed at *;have g:=hB.edg ed hm;have u:=ab3 (T:=T) g.1 g.2
   have e9:(rnE T f.length ed).block=((rnP f.length ed.block.toNat:Nat):Int):=by
    have:=abR (n:=f.length) (i:=ed.block.toNat) Zo Zo;rw[u.1];omega
   rw[e9]
   show tJ _ call' (abC T f) n _ ((rnL T ed.args).map v2') v2' m2.pay=_
   rw[c.map];exact acq t hf n ed.block _ m2.pay Zo g.2 c
theorem acQ{p:IProg}{inn irq:List Nat}(hp:∀f∈p.funcs,∀b∈f,RnB T f b):∀(r:Nat) (f:Int) (args:List Nat) (m:Mach),xW ⟨rnF T p,inn,irq⟩ r f args m=xW ⟨p,inn,irq⟩ r f args m
 |0,_,_,_=>rfl
 |r+1,f,args,m=>by
  unfold xW;have e1:(rnF T p).funcs.getD f.toNat []=abC T (p.funcs.getD f.toNat []):=ac3 (abC T) p.funcs f.toNat []
  show(if((rnF T p).funcs.getD f.toNat []).isEmpty then _ else tJ _ _ ((rnF T p).funcs.getD f.toNat []) _ _ _ _ _)=_
  rw[e1]
  cases c:p.funcs[f.toNat]? with
  |none=>
   have e2:p.funcs.getD f.toNat []=[]:=by rw[Jj,c];rfl
   show _=(if(p.funcs.getD f.toNat []).isEmpty then _ else _)
   rw[e2]
   rfl
  |some bs=>
   have e2:p.funcs.getD f.toNat []=bs:=by rw[Jj,c];rfl
   show _=(if(p.funcs.getD f.toNat []).isEmpty then _ else tJ _ _ (p.funcs.getD f.toNat []) _ _ _ _ _)
   rw[e2]
   cases bs with
   |nil=>rfl
   |cons b bs=>
    have d:¬(abC T (b::bs)).isEmpty=true:=by
     have:=abx T (b::bs)
     cases h:abC T (b::bs) with
     |nil=>rw[h] at this;cases this
     |cons _ _=>simp
    rw[if_neg d,if_neg Zs];have:=acq (T:=T) (p:=p) (inn:=inn) (irq:=irq) (call:=xW ⟨p,inn,irq⟩ r) (call':=xW ⟨rnF T p,inn,irq⟩ r) (acQ hp r) (f:=b::bs) (hp _ (Ji c)) (m.fuel.toNat+1) 0 args (v:=fun _=>0) (v':=fun _=>0) m Zo Zs (fun _=>rfl);rw[show(0:Int).toNat=0 from rfl,abb] at this;exact this
theorem run_ren{p:IProg}(inn irq:List Nat)(hp:∀f∈p.funcs,∀b∈f,RnB T f b)(f:Int)(args:List Nat)(ram:ByteArray)(F:Int):bQ ⟨rnF T p,inn,irq⟩ f args ram F=bQ ⟨p,inn,irq⟩ f args ram F:=by
 unfold bQ;rw[acQ hp]
def mpK {α:Type}(g:α->α)(l:List α)(k:Nat):List α:=(l.take k).map g++l.drop k
theorem aed {α:Type}(g:α->α)(l:List α)(k:Nat):(mpK g l k).length=l.length:=by
 unfold mpK;rw[Jk,Nr,Oc,List.length_drop];omega
theorem aee {α:Type}(g:α->α)(l:List α):mpK g l l.length=l.map g:=by unfold mpK;rw[Nl,List.drop_length,Ua]
theorem adZ{α:Type}(g:α->α){l:List α}{x:α}(h:l[k]? =some x):(mpK g l k)[k]? =some x:=by
 have hl:=(Jh.1 h).1;unfold mpK;rw[Nc (by rw[Nr,Oc];omega),Nr,Oc,show k-min k l.length=0 by omega,List.getElem?_drop,Uk];exact h
theorem aea{α:Type}(g:α->α){l:List α}{x:α}(h:l[k]? =some x):(mpK g l k).set k (g x)=mpK g l (k+1):=by
 obtain⟨hl,e⟩:=Jh.1 h;unfold mpK;rw[Uj _ _ (by rw[Nr,Oc];omega),Nr,Oc,show k-min k l.length=0 by omega,Nh,h,Js];rw[show l.drop k=x::l.drop (k+1) by rw[<-e,Ue]];rw[Jf];simp
theorem ad1{α β:Type}(f:α->β){l:List α}{b:α}(hk:l[k]? =some b):(l.map f).Perm (f b::(l.eraseIdx k).map f):=by
 have:=aef (fun a=> [f a]) hk;rw[<-Qh,<-Qh] at this;exact this
theorem ad7{α β:Type}(f:α->β){l:List α}(hk:k<l.length)(a:α):((l.set k a).map f).Perm (f a::(l.eraseIdx k).map f):=by
 have h:=ad1 f (l:=l.set k a) (k:=k) (b:=a) (by rw[Nn hk]);rw[List.eraseIdx_set_eq] at h;exact h
section
variable {w:World} {p1 o5:Nat} {pc:List Value} {BX:List (Nat×List Value×TypeId)} {RS:List Row} {wx:World} (h:RwMid w p1 o5 pc BX RS wx)
include h
theorem RwMid.drop {R1 R2:List Row}(e:RS=R1++R2):RwMid w p1 o5 pc BX R2 wx:=by
 subst e;have hs:∀k,k∈R2.filterMap Row.blk->k∈(R1++R2).filterMap Row.blk:=fun k hk=>by rw[List.filterMap_append];exact Qf _ hk
 exact⟨h.hr,h.ho,fun x hx=>⟨(h.bx x hx).1,(h.bx x hx).2.1,fun e=>(h.bx x hx).2.2 (hs _ e)⟩,h.bel,h.base,h.rows.right,fun e=>h.far (hs _ e),h.nd,h.ge⟩
theorem RwMid.swap {B1:List (Nat×List Value×TypeId)}(hp:BX.Perm B1):RwMid w p1 o5 pc B1 RS wx:=
 ⟨h.hr,h.ho,fun x hx=>h.bx x (hp.mem_iff.2 hx),h.bel,h.base,h.rows,h.far,(hp.map (·.1)).nodup_iff.1 h.nd,h.ge⟩
theorem RwMid.setB{b:Nat}{cs:List Value}{t:TypeId}{B2:List (Nat×List Value×TypeId)}(e:BX=(b,cs,t)::B2){u:Value}:RwMid w p1 o5 pc ((b,cs.set i u,t)::B2) RS (wx.setCell ⟨b,i,none⟩ u):=by
 subst e;have hg:=h.ge;obtain⟨h1,h2,h3⟩:=h.bx _ (.head _);have hnd:=h.nd;rw[Ql,Qt] at hnd;have h2:o5<b:=h2;refine⟨zR h.hr (by show p1+1≠b;omega),zR h.ho (by show o5≠b;omega),fun x c=>?_,h.bel.setCell (by show p1<=b;omega) _,h.base,?_,h.far,?_,h.ge⟩
 ·rcases Jq.1 c with rfl|c
  ·refine⟨?_,h2,h3⟩
   show(wx.setCell ⟨b,i,none⟩ u).heap[b]? =_
   rw[zD h1];simp
  ·exact⟨zR (h.bx x (.tail _ c)).1 (fun e=>hnd.1 (Nu.2 ⟨x,c,e⟩)),(h.bx x (.tail _ c)).2⟩
 ·exact h.rows.keep fun k hk=>Below.heap_setCell _ _ _ _ (fun e=>h3 (by have e':k=b:=e;show b∈_;rw[<-e'];exact hk))
 ·rw[Ql,Qt];exact hnd
theorem RwMid.putI{v:Value}{rs:List Row}{g:Nat}(y:Int)(hp:RS.Perm (zP v xs::rs))(hg:v.ownBlock=some g)(hk:xs[k]? =some x):RwMid w p1 o5 pc BX (zP v (xs.set k y)::rs) (wx.setCell ⟨g,k,none⟩ (U y)):=by
 refine h.put hp hg rfl ?_;have h1:=(h.perm hp).rows.own _ (.head _);have h2:wx.ownsRow (p1+1+1) 3 1 v xs.length (xs.flatMap fun x=> [zN x]):=by rw[<-Qh];exact h1
 have h3:=yp (f:=fun x:Int=> [zN x]) (n:=1) (fun _=>rfl) h2 hg hk (j:=0) (u:=U y) (a:=y) Zd rfl;rw[Nk,Uk,<-Qh] at h3
 show(wx.setCell ⟨g,k,none⟩ (U y)).ownsRow (p1+1+1) 3 1 v (xs.set k y).length ((xs.set k y).map zN)
 rw[Nd];exact h3
end
theorem jP{s:List Int}{sv:Value}(hs:zY w w.heap.size sv s):
 G 31 #[sv] w (fun e w'=>∃V:PV,e=.returned (yH V (uR s))/\(∀W,StaysL w.heap.size w' W->ProgIn W W.heap.size V (uR s))/\N w w'):=by
 obtain⟨sa,sc,h9,_,_⟩:=hs.form;subst h9;have HS:=Ja hs;have f4:=mk_bank;obtain⟨Z,hZ⟩:∃Z,madeCells #[Value.int .u8 0] 4096=Z:=⟨_,rfl⟩
 rw[hZ] at f4;have HZ:=Ja hZ;clear hs hZ;go_enter Tryz.func31,Tryz.ntmps31;go_upto_region 2 with fail;generalize c4:(w.alloc (I #[L,L,U 0,U 0,L,L] 29)).alloc (I Z 5)=W0;have e9:Z=((uQ 0).map ly).toArray:=by rw[<-HZ.out,yA,mM,List.map_replicate];rfl
 have f1:O W0 w.heap.size #[L,L,U 0,U 0,L,L] 29:=by rw[<-c4];exact zB (zI rfl)
 have f7:O W0 (w.heap.size+1) ((uQ 0).map ly).toArray 5:=by rw[<-c4,<-e9];exact zI Zs
 have d7:N w W0:=by rw[<-c4];exact((Below.refl _ _).alloc (Je _) _).alloc Zs _
 have H0:=Ja (Jb f7 (Jb f1 d7));obtain⟨rr,d1⟩:∃rr,w.heap.size=rr:=⟨_,rfl⟩
 rw[d1] at H0 ⊢;obtain⟨bb,d8⟩:∃bb,rr+1=bb:=⟨_,rfl⟩
 rw[d8] at H0 ⊢;have e5:=Ja (Jb d1 d8);clear e9 f1 f7 d7 c4 f4 d1 d8 HZ;go_wp2
 go_loopw [4] (fun kv wx=>∃k:Nat,k<=4096/\kv=U k/\Hid (O wx bb ((uQ k).map ly).toArray 5/\O wx rr #[L,L,U 0,U 0,L,L] 29/\Below rr w wx)) (fun kv _=>4096-(intOf kv).toNat)
 case atStart=>exact⟨0,Jt _,rfl,H0⟩
 case round=>
  obtain⟨k,hk,rfl,l⟩:=hrel
  by_cases a3:k<4096
  ·have a6:(k:Int)<4096:=Zo;have e4:=Ja a3;obtain⟨x,hx⟩:∃x,(uQ k)[k]? =some x:=⟨_,Jd (by rw[pM];exact a3)⟩
   have cx:A wr bb k (.int .u8 (x:Int)):=zA l.out.1 (by simp[hx,ly]);have fx:D wr bb k:=zE l.out.1;have k7:=lt_of_block l.out.1;have hq:k*k<=4095*4095:=Nat.mul_le_mul Zo Zo;have k5:(0:Int)<=(k:Int)*(k:Int):=by rw[<-Int.natCast_mul];exact Int.natCast_nonneg _
   have k4:(k:Int)*(k:Int)<=16769025:=by rw[<-Int.natCast_mul];omega
   clear a3 hx hq;go_wp2;have e1:((k:Int)*(k:Int)+(k:Int)/256)%256=((rp k:Nat):Int):=by unfold rp;simp
   rw[e1];refine⟨⟨k+1,e4.out,by go_num,Ja ⟨?_,zR (a:=⟨bb,k,none⟩) l.out.2.1 (by have:=e5.out.2;show rr≠bb;omega),l.out.2.2.setCell (by have:=e5.out.2;show rr<=bb;omega) _⟩⟩,by have:=e4.out;simp[intOf];omega⟩;rw[zD l.out.1,<-kC e4.out];simp[Ox,ly]
  ·obtain rfl:k=4096:=by omega
   have a6:¬(((4096:Nat):Int)<4096):=Zo;have b8:=l.out.1;rw[nu] at b8;have d6:=pN b8 (n:=4096) (by unfold iu;simp);rw[mq] at d6;have hrl:=lt_of_block l.out.2.1;clear a3 b8 hk;obtain⟨bank,b1⟩:∃b,sG=b:=⟨_,rfl⟩
   rw[b1] at d6;have k1:=Ja b1;clear b1;go_upto_region 9 with fail;have y:=md_setup (sv:=.slice sa s.length sc) e5.out.1 l.out.2.1 l.out.2.2;rw[k1.out] at y;generalize (((wr.alloc (I #[.string bank] 9)).alloc (I #[L,L,U 0,U (-1),F (wr.heap.size+1+1) 3 3,F wr.heap.size 1 1] 29)).alloc (I #[U (-1),Y 16384,Y 16,U (-1),Y 16640,Y 7,U 0,Y 128,Y 32] 89)).alloc (I #[.slice sa s.length sc,U 0,Q (wr.heap.size+1),U 0,L,U 0,U 0,L,U 0] 128)=W1 at *;generalize wr.heap.size+1+1+1=pm at *;generalize wr.heap.size+1+1=db at *;generalize wr.heap.size+1=pp at *;generalize wr.heap.size=sb at *;have H1:=Ja y;have d0:=y.bel.size
   have a2:G 55 #[Q pm,U 4] W1 (fun e w'=>∃z:Nat,z<4/\Hid (mdN s=1+z)/\e=.returned (U z)/\Hid (MdHd w (.slice sa s.length sc) (L) rr sb pp db pm (-1) (L) [] 1 w')):=
    (tf y.mkr rfl rfl (HS.out.below zO y.bel) (n:=4) Zd Zd Zd).mono (fun e w' ⟨h1,h2,h3⟩=>⟨_,rX s 0 Zd,Ja rfl,h1,Ja (y.tick h2 h3)⟩)
   have b0:=Ja a2;clear y d6 a6 hrl a2;go_upto_region 10 with(go_at_call 55;go_must (refine b0.out.mono ?_;rintro e W2 ⟨z,f0,HN,rfl,g1⟩))
   obtain⟨n,hn⟩:∃n,1+z=n:=⟨_,rfl⟩
   have f3:1+(z:Int)=(n:Int):=Zo;rw[f3];have c3:mdN s=n:=HN.out.trans hn;have i0:1<=n/\n<=4:=Zo;have HN:=Ja c3;clear c3 f3 hn f0 b0 H1 d0;go_wp2
   go_loopw [8] (fun kv wx=>∃(k:Nat) (av:Value),k<=n/\kv=U k/\Hid (MdHd w (.slice sa s.length sc) av rr sb pp db pm (-1) (L) (yS s k) (sw k) wx)) (fun kv _=>n-(intOf kv).toNat)
   case atStart=>exact⟨0,_,Jt _,rfl,g1⟩
   case round=>
    obtain⟨k,av,hk,rfl,l⟩:=hrel
    by_cases a3:k<n
    ·have a6:(k:Int)<(n:Int):=Zo;obtain⟨ij,f6,c9,c8,c7⟩:=info_parts Tryz.info_int
     by_cases b4:k=0
     ·have i2:¬(0:Int)<(k:Int):=Zo;have c5:=Ja b4;clear b4;obtain⟨aa,ac,b5⟩:=zG l.out.own;have a0:=l.out.own;rw[yY] at b5 a0;subst b5;have d0:=l.out.bel.size;have c1:=zA (i:=1) l.out.prog rfl;have f2:=lt_of_block l.out.prog;have HO:=Ja a0;clear a0;go_wp2_with (at_builtin;go_must (refine zK _ rfl (.tmp 61) (.tmp 63) 22 rfl w.heap.size 3 ij (U 0) 1 8 Tryz.underlying22 f6 c9 c8 c7 rfl Zd (.slice aa k ac) k ((yS s k).map zN) rfl (HO.out.alloc _) _ 1 [zN 0] rfl (yM.one (zI rfl) rfl) (by unfold maxLen;omega) Zo Zt ?_;intro v9 w9 t d b9;obtain⟨b3,b2,rfl⟩:=zG t;have a1:=zL d (zB l.out.prog) (zC HO.out l.out.prog (.inr Zd));have g9:=zA (i:=1) a1 rfl;have g8:D w9 pp 1:=zE a1;have g4:=lt_of_block a1;have HG:=Ja (Jb t d);clear t d b9 a1))
      go_roundw
      case rel=>
       have hq:=l.out.push (x:=0) (av':=.slice b3 (k+1) b2) HG.out.2 (by rw[yY];exact HG.out.1);refine⟨k+1,.slice b3 (k+1) b2,a3,by go_num,Ja ?_⟩;have e1:yS s (k+1)=yS s k++ [0]:=by rw[qC,if_pos c5.out]
       have e2:sw (k+1)=sw k:=by have:=c5.out;subst this;rfl
       rw[e1,e2];exact hq
      case measure=>simp[intOf];omega
     ·have i2:(0:Int)<(k:Int):=Zo;have c5:=Ja b4
      have a2:G 55 #[Q pm,U 4] wr (fun e w'=>∃z:Nat,z<4/\Hid (tk0 s k 4=z)/\e=.returned (U z)/\Hid (MdHd w (.slice sa s.length sc) av rr sb pp db pm (-1) (L) (yS s k) (k+1) w')):=by
       have e:sw k=k:=by unfold sw;rw[if_neg b4]
       have hm:=l.out;rw[e] at hm;exact(tf hm.mkr rfl rfl (HS.out.below zO hm.bel) (n:=4) Zd Zd Zo).mono (fun e w' ⟨h1,h2,h3⟩=>⟨_,rX s k Zd,Ja rfl,h1,Ja (hm.tick h2 h3)⟩)
      have b0:=Ja a2;clear b4 a2;go_upto_region 16 with(go_at_call 55;go_must (refine b0.out.mono ?_;rintro e W3 ⟨z,f0,j2,rfl,a4⟩))
      obtain⟨aa,ac,b5⟩:=zG a4.out.own;have a0:=a4.out.own;rw[yY] at b5 a0;subst b5;have d0:=a4.out.bel.size;have c1:=zA (i:=1) a4.out.prog rfl;have f2:=lt_of_block a4.out.prog;have HO:=Ja a0;clear a0;go_wp2_with (at_builtin;go_must (refine zK _ rfl (.tmp 61) (.tmp 63) 22 rfl w.heap.size 3 ij (U 0) 1 8 Tryz.underlying22 f6 c9 c8 c7 rfl Zd (.slice aa k ac) k ((yS s k).map zN) rfl (HO.out.alloc _) _ 1 [zN (z:Int)] rfl (yM.one (zI rfl) rfl) (by unfold maxLen;omega) Zo Zt ?_;intro v9 w9 t d b9;obtain⟨b3,b2,rfl⟩:=zG t;have a1:=zL d (zB a4.out.prog) (zC HO.out a4.out.prog (.inr Zd));have g9:=zA (i:=1) a1 rfl;have g8:D w9 pp 1:=zE a1;have g4:=lt_of_block a1;have HG:=Ja (Jb t d);clear t d b9 a1))
      go_roundw
      case rel=>
       have hq:=a4.out.push (x:=(z:Int)) (av':=.slice b3 (k+1) b2) HG.out.2 (by rw[yY];exact HG.out.1);refine⟨k+1,.slice b3 (k+1) b2,a3,by go_num,Ja ?_⟩;have e1:yS s (k+1)=yS s k++ [(z:Int)]:=by rw[qC,if_neg c5.out,j2.out]
       have e2:sw (k+1)=k+1:=rfl;rw[e1,e2];exact hq
      case measure=>simp[intOf];omega
    ·obtain rfl:n=k:=by omega
     have a6:¬(n:Int)<(n:Int):=Zo;have e:sw n=n:=by unfold sw;rw[if_neg Zo]
     have f5:=mk_funcs n i0.2;have a8:=l.out;rw[e] at a8;have p0:=zA (i:=0) a8.prog rfl;have h5:D wr pp 0:=zE a8.prog;have f2:=lt_of_block a8.prog;have c:=Ja (Jb (a8.funcs (I (List.replicate n (Value.slice none 0 0)).toArray 39) (F wr.heap.size n n)) (zI (W:=wr.setCell ⟨pp,0,none⟩ (F wr.heap.size n n)) (o:=I (List.replicate n (Value.slice none 0 0)).toArray 39) (B:=wr.heap.size) Zs));have i8:=a8.bel.size;have d9:(List.replicate n (Value.slice none 0 0)).toArray=Array.replicate n (Value.slice none 0 0):=by simp
     rw[d9] at c f5;clear d9;clear a3 e a8 l g1;go_upto_region 18 with fail;generalize j0:(wr.setCell ⟨pp,0,none⟩ (F wr.heap.size n n)).alloc (I (Array.replicate n (Value.slice none 0 0)) 39)=W3 at *;generalize l1:wr.heap.size=fb at *;clear p0 h5 f5 a6 j0;obtain⟨m,hm⟩:∃m,n=m+1:=⟨n-1,by omega⟩
     have k6:(n:Int)-1=(m:Int):=Zo;have i1:m<n:=Zo;have d5:n-1=m:=Zo;have e3:=Ja (Jb hm d5);clear hm d5;obtain⟨x,hx⟩:∃x,(yS s n)[m]? =some x:=⟨_,Jd (by rw[yY];exact i1)⟩
     obtain⟨g,ac,e,l0,k9⟩:=c.out.1.own.form (by rw[yY];omega);rw[yY] at e;subst e;have c1:=zA (i:=1) c.out.1.prog rfl;have g3:=lt_of_block c.out.1.prog
     have h7:A W3 g m (U x):=by
      have h0:=c.out.1.own;rw[yY] at h0;have h1:=h0.cellAt m Zo;exact h1.trans (by rw[Jr,hx];rfl)
     have j:oJ s=(decide (1<n) && decide (x=0)):=by
      unfold oJ;rw[HN.out,e3.out.2,Jj,hx];rfl
     have g2:pm<W3.heap.size:=lt_of_block c.out.1.mkr;have g5:fb<W3.heap.size:=lt_of_block c.out.2
     have d3:fb≠pm:=fun e=>by
      have h1:=c.out.1.mkr;have h2:=c.out.2;rw[e,h1] at h2
      injection h2 with h3
      injection h3 with _ h4
      exact absurd h4 Zd
     have a2:G 55 #[Q pm,U 2] W3 (fun e w'=>∃z:Nat,z<2/\Hid (tk0 s n 2=z)/\e=.returned (U z)/\Hid (MdHd w (.slice sa s.length sc) (F g n ac) rr sb pp db pm (-1) (F fb n n) (yS s n) (n+1) w'/\O w' fb (Array.replicate n (Value.slice none 0 0)) 39)):=
      (tf c.out.1.mkr rfl rfl (HS.out.below zO c.out.1.bel) (n:=2) Zd Zd Zo).mono (fun e w' ⟨h1,h2,h3⟩=>⟨_,rX s n Zd,Ja rfl,h1,Ja ⟨c.out.1.tick h2 h3,h3.blk c.out.2 d3⟩⟩)
     have b0:=Ja a2;have e6:=Ja (Jb j hx);have l2:=Ja d3;clear j hx a2 d3;have d4:1<n->decide ((1:Int)<(n:Int))=true/\decide (1<n)=true:=fun h=>⟨by rw[decide_eq_true_iff];omega,by rw[decide_eq_true_iff];exact h⟩
     have g6:=Ja d4;clear d4
     go_cut [89] (fun v wx=>∃b:Bool,v=.bool b/\Hid ((b=true↔oJ s=true/\tk0 s n 2=0)/\MdHd w (.slice sa s.length sc) (F g n ac) rr sb pp db pm (-1) (F fb n n) (yS s n) (sP s) wx/\O wx fb (Array.replicate n (Value.slice none 0 0)) 39))
     case first=>
      by_cases h1:1<n
      ·have f9:(1:Int)<(n:Int):=Zo;obtain⟨j1,f8⟩:=g6.out h1
       by_cases a5:x=0
       ·have h8:(x==0)=true:=by rw[beq_iff_eq];exact a5
        have j:oJ s=true:=by rw[e6.out.1];simp[h1,a5]
        have e7:=Ja j;have g0:=Ja a5;clear j a5;have d2:sP s=n+1:=by unfold sP;rw[e7.out,HN.out];rfl
        have e0:=Ja d2;clear d2
        by_cases c2:tk0 s n 2=0
        ·have b6:=Ja c2;clear c2;go_wp2_with (go_at_call 55;go_must (refine b0.out.mono ?_;rintro e w4 ⟨z,h6,HZ,rfl,b7⟩;obtain rfl:z=0:=HZ.out.symm.trans b6.out))
         go_meet;refine⟨true,rfl,Ja ⟨⟨(fun _=>⟨e7.out,b6.out⟩),(fun _=>rfl)⟩,?_,b7.out.2⟩⟩;rw[e0.out];exact b7.out.1
        ·have b6:=Ja c2;clear c2;go_wp2_with (go_at_call 55;go_must (refine b0.out.mono ?_;rintro e w4 ⟨z,h6,HZ,rfl,b7⟩;have tz:((z:Int)==0)=false:=by rw[beq_eq_false_iff_ne];have:=HZ.out;have:=b6.out;omega))
         go_meet;refine⟨false,rfl,Ja ⟨⟨(fun e=>by cases e),(fun e=>absurd e.2 b6.out)⟩,?_,b7.out.2⟩⟩;rw[e0.out];exact b7.out.1
       ·have h8:(x==0)=false:=by rw[beq_eq_false_iff_ne];exact a5
        have g0:=Ja a5;clear a5;go_wp2;go_meet;have j:oJ s=false:=by rw[e6.out.1];simp[g0.out]
        refine⟨false,rfl,Ja ⟨⟨(fun e=>by cases e),(fun e=>by rw[j] at e;cases e.1)⟩,?_,c.out.2⟩⟩;have e:sP s=n:=by unfold sP;rw[j,HN.out];rfl
        rw[e];exact c.out.1
      ·have f9:¬(1:Int)<(n:Int):=Zo;have f8:decide (1<n)=false:=by rw[decide_eq_false_iff_not];exact h1
       have j1:decide ((1:Int)<(n:Int))=false:=by rw[decide_eq_false_iff_not];exact f9
       go_wp2;go_meet;have j:oJ s=false:=by rw[e6.out.1,f8];rfl
       refine⟨false,rfl,Ja ⟨⟨(fun e=>by cases e),(fun e=>by rw[j] at e;cases e.1)⟩,?_,c.out.2⟩⟩;have e:sP s=n:=by unfold sP;rw[j,HN.out];rfl
       rw[e];exact c.out.1
     case rest=>
     obtain⟨b,rfl,HB⟩:=hcut;have c0:=Ja HB;clear c1 g3 h7 g2 g5;have p3:=zA (i:=3) HB.out.2.1.prog rfl;have k3:D wc pp 3:=zE HB.out.2.1.prog;have k2:=lt_of_block HB.out.2.1.prog
     have k0:=Ja (Jb (HB.out.2.1.hnd (m:Int)) (zR (a:=⟨pp,3,none⟩) (u:=U m) HB.out.2.2 (fun e=>by
      have h1:=HB.out.2.1.prog;have h2:=HB.out.2.2;rw[e] at h2;rw[show(⟨pp,3,none⟩:Addr).block=pp from rfl,h1] at h2
      injection h2 with h3
      injection h3 with _ h4
      exact absurd h4 Zd)))
     go_upto_if 89 with fail
     go_cut [] (fun wx=>Hid (MdHd w (.slice sa s.length sc) (F g n ac) rr sb pp db pm (vw s) (F fb n n) (yS s n) (sP s) wx/\O wx fb (Array.replicate n (Value.slice none 0 0)) 39))
     case first=>
      cases b
      ·go_wp2;go_meet;have e:vw s=-1:=by unfold vw;rw[if_neg (fun e=>by rw[HN.out] at e;have:=c0.out.out.1.2 e;cases this)]
       rw[e];exact Ja c0.out.out.2
      ·go_wp2;go_meet;have e:vw s=(m:Int):=by unfold vw;rw[HN.out,if_pos (c0.out.out.1.1 (by trivial)),e3.out.2]
       rw[e];exact k0
     case rest=>
     refine ‹∀(a:Act) (w:World),Code.wp Tryz.prog _ _ a w->_› _ _ ?_;have c3:=HN.out;subst c3;exact j9 HS hcut i8 e3.out.2 _ _ _ _ _ _ _ _ _ _ _ _ _ _ _ _ _ _ _ _ _ _ _ _ _ _ _ _ _ _ _ _ _ _ _ _ _ _ _ _ _ _ _ _ _ _ _ _ _ _ _ _ _ _ _ _ _ _ _ _ _ _ _ _ _ _ _ _ _ _ _ _ _ _ _ _ _ _ _ _ _ _ _ _ _ _ _ _ _ _ _ _ _ _ _ _ _ _ _ _ _ _ _ _ _ _ _ _ _ _ _ _ _ _ _ _ _ _ _ _ _ _ _ _ _ _ _ _ _ _ _ _ _ _ _ _ _ _ _ _ _ _ _ _ _ _ _ _ _ _ _ _ _ _ _ _ _ _ _ _ _ _ _ _ _ _ _ _ _ _ _ _ _ _ _ _ _ _ _ _ _ _ _ _ _ _ _ _ _ _ _ _ _ _ _ _
theorem gj (n m:Nat):∃k:Nat,(k:Int)=(if(m:Int)<(n:Int) then(m:Int) else(n:Int))/\k=min m n:=⟨min m n,by split<;>omega,rfl⟩
theorem lw{α:Type}{sz:Nat}{R:World->Nat->Nat->Nat->α->Prop}{B:Nat}{a:Option Addr}{xs:List α}(h:yN sz R w B (.slice a xs.length c) xs)(m:Nat):yN sz R w B (.slice a (min m xs.length) c) (xs.take m):=by
 obtain⟨a',d,e,h1,h2,h3⟩:=h;cases e;exact⟨a,c,by rw[Oc],by rw[Oc];omega,h2,fun k x hk=>h3 k x (by rw[Ug] at hk;split at hk;exact hk;cases hk)⟩
def oC (w:World)(p:IProg)(e:Ending)(w':World):Prop:=∃(fa:Option Addr) (fc:Nat) (aa:Option Addr) (ac:Nat) (da:Option Addr) (dc:Nat) (ba:Option Addr) (bc:Nat),e=.returned (.agg (P p fa fc aa ac da dc ba bc))/\
 ProgIn w' w'.heap.size ⟨.slice fa p.funcs.length fc,.slice aa p.args.length ac,.slice da p.data.length dc,.slice ba p.banks.length bc⟩ p/\N w w'
theorem nE{w0:World}{V:PV}{p:IProg}(h:ProgIn w w.heap.size V p)(hb:N w0 w):oC w0 p (.returned (yH V p)) w:=by
 obtain⟨fa,fc,h1,_,_⟩:=h.funcs.form;obtain⟨aa,ac,h2,_,_⟩:=h.args.form;obtain⟨da,dc,h3,_,_⟩:=h.data.form;obtain⟨ba,bc,c,_,_⟩:=h.banks.form;obtain⟨v1,v2,v3,v4⟩:=V;simp only at h1 h2 h3 c;subst h1 h2 h3 c;exact⟨fa,fc,aa,ac,da,dc,ba,bc,rfl,h,hb⟩
theorem qu (w:World)(r o:Nat)(vs:List Value):Below r w (w.setCells r o vs):=
 ⟨(ze r vs o w).1,(ze r vs o w).2.1,(ze r vs o w).2.2,Ul (y8 r vs o w).symm,fun k hk=>ye r k Zo vs o w⟩
theorem pJ{r o L:Nat}{vs:List Value}(h:r<L):StaysL L w (w.setCells r o vs):=
 ⟨Ul (y8 r vs o w).symm,⟨(ze r vs o w).1,(ze r vs o w).2.1,(ze r vs o w).2.2⟩,fun k hk _=>ye r k Zo vs o w⟩
theorem rn_op{p:IProg}(h:opF p o=true)(hr:o.res<=T):opF (rnF T p) (abE T o)=true:=by
 have i:(zi o.code).a=false->(abE T o).a=o.a:=fun e=>by show(if(zi o.code).a then _ else _)=_;rw[e];rfl
 have hb:(zi o.code).b=false->(abE T o).b=o.b:=fun e=>by show(if(zi o.code).b then _ else _)=_;rw[e];rfl
 have hl:(abE T o).args.length=o.args.length:=Nr ..
 have j:decide (0<=(abE T o).res)=decide (0<=o.res):=by
  show decide (0<=(if 0<=o.res then T-o.res else o.res))=_
  by_cases e:0<=o.res
  ·rw[if_pos e,decide_eq_true e,decide_eq_true Zo]
  ·rw[if_neg e]
 have g:-1<=o.res->-1<=(abE T o).res:=fun e=>by
  show -1<=(if 0<=o.res then T-o.res else o.res)
  split<;>omega
 have hf:(rnF T p).funcs.length=p.funcs.length:=Nr ..;unfold opF at h ⊢;have ec:(abE T o).code=o.code:=rfl;have en:(abE T o).n=o.n:=rfl;have e1:(rnF T p).args=p.args:=rfl;have e2:(rnF T p).data=p.data:=rfl;rw[ec,en,e1,e2,hf,hl,j];rw[Jm] at h ⊢;refine⟨h.1,?_⟩;have h2:=h.2
 by_cases c:o.code=26
 ·have hs:zi o.code=⟨true,false,false,false,false⟩:=by rw[c];rfl
  rw[if_pos c] at h2 ⊢;rw[i (by rw[hs]),hb (by rw[hs])];simp only[Jm,decide_eq_true_eq] at h2 ⊢;exact⟨⟨⟨h2.1.1.1,g h2.1.1.2⟩,h2.1.2⟩,h2.2⟩
 rw[if_neg c] at h2 ⊢
 by_cases d:o.code=2
 ·have hs:zi o.code=⟨true,true,false,false,true⟩:=by rw[d];rfl
  rw[if_pos d] at h2 ⊢;rw[i (by rw[hs]),hb (by rw[hs])];exact h2
 rw[if_neg d] at h2 ⊢;simp only[Jm,Bool.or_eq_true,decide_eq_true_eq] at h2 ⊢;obtain⟨⟨⟨⟨⟨⟨k1,k2⟩,k3⟩,k4⟩,k5⟩,k6⟩,k7⟩:=h2;refine⟨⟨⟨⟨⟨⟨k1,g k2⟩,?_⟩,?_⟩,k5⟩,k6⟩,k7⟩
 ·cases e:(zi o.code).a with
  |true=>exact .inl rfl
  |false=>rw[i e];rw[e] at k3;exact k3
 ·cases e:(zi o.code).b with
  |true=>exact .inl rfl
  |false=>rw[hb e];rw[e] at k4;exact k4
theorem acH{v:Int}{l:List Int}(h:v∈rnL T l):∃x∈l,v=T-x:=by
 obtain⟨x,c,e⟩:=Nu.1 h;exact⟨x,c,e.symm⟩
theorem acS:∀(l:List IOp),(∀o∈l,o.res<=T)->abo (l.map (abE T))=rnL T (abo l)
 | [],_=>rfl
 |o::l,h=>by
  have h1:=h o (.head _);have ih:=acS l fun q hq=>h q (.tail _ hq)
  rw[Ql]
  by_cases e:0<=o.res
  ·have e2:(abE T o).res=T-o.res:=if_pos e;rw[gY (by rw[e2];omega),gY e,ih,e2];rfl
  ·have e2:(abE T o).res=o.res:=if_neg e;rw[abm (by rw[e2];exact e),abm e,ih]
theorem adE{n:Nat}{b:IBlk}(h:∀o∈b.ops,o.res<=T):abu (rnB T n b)=rnL T (abu b):=by
 show rnL T b.params++abo (b.ops.map (abE T))=_
 rw[acS _ h];unfold abu rnL;rw[Js]
theorem acO{f:List IBlk}{b:IBlk}(hb:b∈f)(ho:o∈b.ops)(c:0<=o.res):o.res∈aaI f:=by
 refine Qx.2 ⟨b,hb,Qf _ ?_⟩;exact Nu.2 ⟨o,List.mem_filter.2 ⟨ho,decide_eq_true c⟩,rfl⟩
theorem ah4 (n:Nat):((List.range n).map (rnP n)).Perm (List.range n):=by
 cases n with
 |zero=>exact Uq _
 |succ m=>
  have h1:(List.range (m+1)).map (rnP (m+1))=0::((List.range m).map (·+1)).reverse:=by
   refine List.ext_getElem Zs fun i h1 h2=>?_
   rw[List.getElem_map,List.getElem_range]
   cases i with
   |zero=>rw[abb];rfl
   |succ i=>
    rw[List.getElem_cons_succ,List.getElem_reverse,List.getElem_map,List.getElem_range];simp at h1 ⊢;rw[abR Zo Zo];omega
  have h2:List.range (m+1)=0::(List.range m).map (·+1):=List.range_succ_eq_map ..;rw[h1,h2];exact(List.reverse_perm _).cons 0
theorem adK (T:Int)(f:List IBlk):(abC T f).Perm (f.map (rnB T f.length)):=by
 have h:=(ah4 f.length).map fun i=>rnB T f.length (f.getD i ⟨[],[],⟨0,0,[]⟩⟩)
 rw[List.map_map] at h
 have e:(List.range f.length).map (fun i=>rnB T f.length (f.getD i ⟨[],[],⟨0,0,[]⟩⟩))=f.map (rnB T f.length):=by
  refine List.ext_getElem Zs fun i h1 h2=>?_
  simp only[List.getElem_map,List.getElem_range];rw[Jj,Jd (by simpa using h2)];rfl
 rw[e] at h;exact h
theorem Walk.mapN {E E':Nat->Nat->Prop}{P P':Nat->Prop}(g:Nat->Nat)(d:∀a b,P a->P b->E a b->E' (g a) (g b))(c:∀a,P a->P' (g a)){a b:Nat}(h:Walk E P a b):Walk E' P' (g a) (g b):=by
 induction h with
 |refl h=>exact .refl (c _ h)
 |snoc h1 h2 h3 ih=>exact .snoc ih (d _ _ h1.last h3 h2) (c _ h3)
section
variable {T:Int} {p:IProg} {f:List IBlk} (h:FnOk p f) (hT:∀v∈aaI f,v<=T) (h0:0<=T)
include h hT h0
theorem FnOk.res {b:IBlk}(hb:b∈f):∀o∈b.ops,o.res<=T:=fun o ho=>by
 rcases Int.lt_or_le o.res 0 with e|e
 ·omega
 ·exact hT _ (acO hb ho e)
theorem fB.mem{v:Int}{k:Int}(hd:fB f v i k):v∈aaI f/\0<=v:=by
 obtain⟨b,hb,hd⟩:=hd;have hm:=Ji hb;rcases hd with⟨_,hv⟩|⟨j,o,_,d,hr,c⟩
 ·have:v∈aaI f:=Qx.2 ⟨b,hm,Jz _ hv⟩;exact⟨this,(h.rng v this).1⟩
 ·subst hr;exact⟨acO hm (Ji d) c,c⟩
theorem FnOk.rnB {b:IBlk}(hb:b∈f):RnB T f b:=by
 refine⟨fun o ho=>⟨(ahl (h.ops b hb o ho)).1,h.res hT h0 hb o ho⟩,fun h4=>?_,fun e he=>?_,acV (h.term b hb)⟩
 ·by_cases e:b.term.a=-1
  ·exact .inl e
  ·obtain⟨i,hi⟩:=Ny hb
   have hv:b.term.a∈mE b.term:=by
    unfold mE ut;rw[if_pos (by simp[h4,e])];exact Jz _ (.head _)
   obtain⟨_,_,c,_⟩:=h.tuse i b hi _ hv;have hm:=fB.mem h hT h0 c;exact .inr ⟨hm.2,hT _ hm.1⟩
 ·have:=h.term b hb;unfold mb at this;rw[Jm,Oe] at this;have h2:=this.1 e he;unfold uM at h2;simp only[Jm,decide_eq_true_eq] at h2;exact h2.1
theorem FnOk.succ_ren(c:u<f.length):succ (zy (abC T f)) (rnP f.length u)=(succ (zy f) u).map (rnP f.length):=by
 obtain⟨b,hb⟩:∃b,f[u]? =some b:=⟨_,Jd c⟩
 rw[gK hb,gK (abM c hb)]
 show((b.term.to.map (rnE T f.length)).map fun e=>e.block.toNat)=_
 rw[List.map_map,List.map_map];refine Up fun e he=>?_
 have:=(h.rnB hT h0 (Ji hb)).edg e he;exact(ab3 this.1 this.2).2
theorem FnOk.edge_lt{s:Nat}(j:GE (zy f) u s):u<f.length/\s<f.length:=by
 have c:s∈succ (zy f) u:=j
 have d:u<f.length:=by
  rcases Nat.lt_or_ge u f.length with g|i
  ·exact g
  ·unfold succ at c;rw[Jj,Of (by rw[xu];exact i)] at c;cases c
 obtain⟨b,hb⟩:∃b,f[u]? =some b:=⟨_,Jd d⟩
 rw[gK hb] at c;obtain⟨e,hm,rfl⟩:=Nu.1 c;have:=(h.rnB hT h0 (Ji hb)).edg e hm;exact⟨d,by omega⟩
theorem FnOk.ge_ren{s:Nat}(c:GE (zy f) u s):GE (zy (abC T f)) (rnP f.length u) (rnP f.length s):=by
 show _∈succ _ _
 rw[h.succ_ren hT h0 (h.edge_lt hT h0 c).1];exact Oj c
theorem FnOk.ge_back{s:Nat}(l:GE (zy (abC T f)) u s):GE (zy f) (rnP f.length u) (rnP f.length s):=by
 have c:s∈succ (zy (abC T f)) u:=l
 have g:u<f.length:=by
  rcases Nat.lt_or_ge u f.length with j|k
  ·exact j
  ·unfold succ at c;rw[Jj,Of (by rw[xu,abx];exact k)] at c;cases c
 have e1:=h.succ_ren hT h0 (abS (n:=f.length) (i:=u) Zo);rw[aaV g] at e1;rw[e1] at c;obtain⟨x,d,rfl⟩:=Nu.1 c;rw[aaV (h.edge_lt hT h0 (show GE (zy f) _ x from d)).2];exact d
theorem FnOk.reach_ren(hi:i<f.length):Reach (GE (zy (abC T f))) i:=by
 have h1:=h.reach (rnP f.length i) (abS Zo);have h2:=h1.mapN (P':=fun _=>True) (E':=GE (zy (abC T f))) (rnP f.length) (fun a b _ _ e=>h.ge_ren hT h0 e) (fun _ _=>trivial);rw[aaV hi,abb] at h2;exact h2
theorem FnOk.dom_ren{b:Nat}(hb:b<f.length)(hi:i<f.length)(l:Dom (GE (zy f)) b i):Dom (GE (zy (abC T f))) (rnP f.length b) (rnP f.length i):=fun hw=>by
 have d:0<f.length:=Zo;have m:=(hw.mono (E':=GE (zy (abC T f))) (P':=fun a=>a≠rnP f.length b) (fun _ _ _ _ e=>e) (fun _ e=>e)).2
 have k:∀ {a c:Nat},Walk (GE (zy (abC T f))) (·≠rnP f.length b) a c->a<f.length->c<f.length:=fun w ha=>by
  induction w with
  |refl _=>exact ha
  |@snoc b1 c1 _ e _ ih=>
   have e2:c1∈succ (zy (abC T f)) b1:=e;have e1:=h.succ_ren hT h0 (u:=rnP f.length b1) (abS d);rw[aaV ih] at e1;rw[e1] at e2;obtain⟨x,_,rfl⟩:=Nu.1 e2;exact abS d
 have g:∀ {c:Nat},Walk (GE (zy (abC T f))) (·≠rnP f.length b) 0 c->Walk (GE (zy f)) (·≠b) 0 (rnP f.length c):=fun w=>by
  have j:∀c,c<f.length->c≠rnP f.length b->rnP f.length c≠b:=fun c hc hn2 e=>hn2 (by rw[<-e,aaV hc])
  induction w with
  |refl hp=>rw[abb];exact .refl (fun e=>hp (by rw[<-e,abb]))
  |snoc w1 e hp ih=>exact .snoc ih (h.ge_back hT h0 e) (j _ (k (.snoc w1 e hp) d) hp)
 have:=g hw;rw[aaV hi] at this;exact l this
theorem FnOk.kn_ren{v:Int}{k:Int}(hi:i<f.length)(hk:KnS f v i k):KnS (abC T f) (T-v) (rnP f.length i) k:=by
 obtain⟨b,a,m,l,g⟩:=hk;have hm:=fB.mem h hT h0 m;have hv:=hT _ hm.1;obtain⟨x,d,c⟩:=m;have hb:=(Jh.1 d).1;refine⟨rnP f.length b,a,⟨_,abM hb d,?_⟩,h.dom_ren hT h0 hb hi l,fun e=>g (by rw[<-aaV hb,e,aaV hi])⟩;rcases c with⟨e,hp⟩|⟨j,o,e,u,hr,t⟩
 ·exact .inl ⟨e,Nu.2 ⟨v,hp,rfl⟩⟩
 ·refine .inr ⟨j,abE T o,e,?_,?_,by omega⟩
  ·show(x.ops.map (abE T))[j]? =_
   rw[Jr,u];rfl
  ·show(if 0<=o.res then T-o.res else o.res)=_
   rw[hr,if_pos t]
theorem FnOk.ren (a1:T<=65535):FnOk (rnF T p) (abC T f):=by
 have g:=adK T f
 have y:(aaI (abC T f)).Perm (rnL T (aaI f)):=by
  have h1:(aaI (abC T f)).Perm (aaI (f.map (Go.Proofs.YtoahcpkibpomcaaGreat.rnB T f.length))):=g.flatMap_right _;refine h1.trans (List.Perm.of_eq ?_)
  have:∀(n:Nat) (l:List IBlk),(∀b∈l,∀o∈b.ops,o.res<=T)->aaI (l.map (Go.Proofs.YtoahcpkibpomcaaGreat.rnB T n))=rnL T (aaI l):=fun n l=>by
   induction l with
   |nil=>intro _;rfl
   |cons b l ih=>
    intro hl
    show abu (Go.Proofs.YtoahcpkibpomcaaGreat.rnB T n b)++aaI (l.map (Go.Proofs.YtoahcpkibpomcaaGreat.rnB T n))=rnL T (abu b++aaI l)
    rw[adE (hl b (.head _)),ih (fun x k=>hl x (.tail _ k))];unfold rnL;rw[Js]
  exact this _ f fun b hb=>h.res hT h0 hb
 refine⟨fun e=>?_,fun b' hb o' ho=>?_,fun b' hb=>?_,?_,fun v hv=>?_,fun i hi=>h.reach_ren hT h0 (by rw[abx] at hi;exact hi),fun i b' hb j o' ho v hv=>?_,fun i b' hb v hv=>?_⟩
 ·have:=abx T f;rw[e] at this;exact h.ne (Nz this.symm)
 ·obtain⟨b,d,rfl⟩:=Nu.1 (g.mem_iff.1 hb);obtain⟨o,m,rfl⟩:=Nu.1 (show o'∈b.ops.map (abE T) from ho);exact rn_op (h.ops b d o m) (h.res hT h0 d o m)
 ·obtain⟨b,d,rfl⟩:=Nu.1 (g.mem_iff.1 hb);have hB:=h.rnB hT h0 d;have ht:=h.term b d;unfold mb at ht ⊢;rw[Jm,Oe] at ht ⊢;refine⟨fun e' he=>?_,?_⟩
  ·obtain⟨e,w,rfl⟩:=Nu.1 (show e'∈b.term.to.map (rnE T f.length) from he);have h1:=hB.edg e w;have h2:=ab3 (T:=T) h1.1 h1.2;have h3:=ht.1 e w;unfold uM at h3 ⊢;simp only[Jm,decide_eq_true_eq] at h3 ⊢;rw[abx,h2.1];refine⟨by omega,?_⟩;have h4:=abR (n:=f.length) (i:=e.block.toNat) Zo Zo;rw[show(f.length:Int)-e.block=((rnP f.length e.block.toNat:Nat):Int) by omega,acu Zo h1.2]
   show(rnL T e.args).length=(rnL T _).length
   unfold rnL;rw[Nr,Nr];exact h3.2
  ·have h2:=ht.2;have e1:(Go.Proofs.YtoahcpkibpomcaaGreat.rnB T f.length b).term.kind=b.term.kind:=rfl;have e2:(Go.Proofs.YtoahcpkibpomcaaGreat.rnB T f.length b).term.to.length=b.term.to.length:=Nr ..
   have e3:b.term.kind=1∨b.term.kind=5->(Go.Proofs.YtoahcpkibpomcaaGreat.rnB T f.length b).term.a=b.term.a:=fun e=>by
    show rnA T b.term=_
    unfold rnA;rw[if_neg Zo]
   rw[e1,e2]
   by_cases k1:b.term.kind=1
   ·rw[e3 (.inl k1)];exact h2
   by_cases k5:b.term.kind=5
   ·rw[e3 (.inr k5)];exact h2
   rw[if_neg k1] at h2 ⊢
   split at h2
   ·rename_i e;rw[if_pos e];exact h2
   rename_i e;rw[if_neg e]
   split at h2
   ·rename_i e;rw[if_pos e];exact h2
   rename_i e;rw[if_neg e]
   split at h2
   ·rename_i e;rw[if_pos e];exact h2
   ·cases h2
 ·rw[y.nodup_iff];unfold rnL;rw[List.nodup_iff_pairwise_ne,List.pairwise_map];exact(List.nodup_iff_pairwise_ne.1 h.nd).imp fun hne e=>hne Zo
 ·obtain⟨x,k,rfl⟩:=acH (y.mem_iff.1 hv);have h1:=h.rng x k;have h2:=hT x k;omega
 ·obtain⟨hi,b,d,rfl⟩:=act hb;have u:(b.ops.map (abE T))[j]? =some o':=ho;rw[Jr,Oz] at u;obtain⟨o,m,rfl⟩:=u
  have t:v∈rnL T (rR o):=by
   unfold rR at hv;have ec:(abE T o).code=o.code:=rfl;have ea:(abE T o).a=if(zi o.code).a then T-o.a else o.a:=rfl
   have eb:(abE T o).b=if(zi o.code).b then T-o.b else o.b:=rfl
   rw[ec,ea,eb] at hv;unfold rnL rR;rw[Js,Js];cases e1:(zi o.code).a<;>cases e2:(zi o.code).b<;>(rw[e1,e2] at hv;exact hv)
  obtain⟨x,k,rfl⟩:=acH t;have:=h.kn_ren hT h0 (abS Zo) (h.use _ b d j o m x k);rw[aaV hi] at this;exact this
 ·obtain⟨hi,b,d,rfl⟩:=act hb;have hB:=h.rnB hT h0 (Ji d)
  have t:v∈rnL T (mE b.term):=by
   have e1:((Go.Proofs.YtoahcpkibpomcaaGreat.rnB T f.length b).term.to.map (·.args)).flatten=rnL T (b.term.to.map (·.args)).flatten:=by
    show((b.term.to.map (rnE T f.length)).map (·.args)).flatten=_
    unfold rnL;rw[List.map_flatten,List.map_map,List.map_map];rfl
   have e2:ut (Go.Proofs.YtoahcpkibpomcaaGreat.rnB T f.length b).term=ut b.term/\(ut b.term=true->(Go.Proofs.YtoahcpkibpomcaaGreat.rnB T f.length b).term.a=T-b.term.a):=by
    have ek:(Go.Proofs.YtoahcpkibpomcaaGreat.rnB T f.length b).term.kind=b.term.kind:=rfl;have ea:(Go.Proofs.YtoahcpkibpomcaaGreat.rnB T f.length b).term.a=rnA T b.term:=rfl;unfold ut;rw[ek,ea];unfold rnA
    by_cases k4:b.term.kind=4
    ·rcases hB.kind k4 with e|e
     ·rw[if_neg Zo,e,k4];exact⟨rfl,fun e=>by simp at e⟩
     ·rw[if_pos Zo,k4];have d1:decide (T-b.term.a≠-1)=true:=decide_eq_true Zo;have d2:decide (b.term.a≠-1)=true:=decide_eq_true Zo;rw[d1,d2];exact⟨rfl,fun _=>rfl⟩
    ·by_cases a0:b.term.kind=2∨b.term.kind=3
     ·rw[if_pos Zo];refine⟨by rcases a0 with e|e<;>simp[e],fun _=>rfl⟩
     ·rw[if_neg Zo];refine⟨rfl,fun e=>?_⟩;simp at e;omega
   unfold mE at hv;rw[e1,e2.1] at hv;unfold mE;have hm:∀(a c:List Int),rnL T (a++c)=rnL T a++rnL T c:=fun a c=>Js ..
   rw[hm]
   cases e3:ut b.term with
   |true=>rw[e3,e2.2 e3] at hv;exact hv
   |false=>rw[e3] at hv;exact hv
  obtain⟨x,k,rfl⟩:=acH t;have:=h.kn_ren hT h0 (abS Zo) (h.tuse _ b d x k);rw[aaV hi] at this
  show KnS _ _ _ (((b.ops.map (abE T)).length:Nat):Int)
  rw[Nr];exact this
end
theorem made_rnB(s:List Int)(c:5000<=T):∀f∈(uR s).funcs,∀b∈f,RnB T f b:=fun f hf b hb=>by
 obtain⟨k,hk⟩:=Ny hf;rcases acF s hk with e|⟨h1,_,h2⟩
 ·rw[e] at hb;cases hb
 ·exact h1.rnB (fun v hv=>by have:=h2 v hv;omega) Zo hb
theorem age(s:List Int)(m:5000<=T)(j:T<=65535):vC (rnF T (uR s))=0:=by
 have hv:=(rz (fm s)).1;have hl:(rnF T (uR s)).funcs.length=(uR s).funcs.length:=Nr ..
 have l:sR (rnF T (uR s))=0:=by
  rw[<-hv];unfold sR yw;rw[hl];rfl
 unfold vC;rw[l,if_neg Zs,if_pos];rw[Oe];intro k hk;rw[Ol,hl] at hk;have d:(uR s).funcs[k]? =some (uR s).funcs[k]:=Jd hk
 have hg:(rnF T (uR s)).funcs[k]? =some (abC T (uR s).funcs[k]):=by
  show((uR s).funcs.map (abC T))[k]? =_
  rw[Jr,d];rfl
 rcases acF s d with e|⟨h1,⟨b0,g,h⟩,h2⟩
 ·unfold yi;rw[Jj,hg,e];rfl
 ·have i:=(Jh.1 g).1;have c:=abM (T:=T) i g;rw[abb] at c;refine(h1.ren (fun v hv=>by have:=h2 v hv;omega) Zo j).function hg c ?_
  show((rnL T b0.params).length:Int)=_
  unfold rnL;rw[Nr];exact h
def aey:List Nat->Code->Code
 | [],c=>c
 |0::p,.seq a _=>aey p a
 |_::p,.seq _ b=>aey p b
 |_::p,.block _ b=>aey p b
 |_::p,.loop b=>aey p b
 |_,c=>c
noncomputable def rnBody:Code:=Tryz.f29.body.getD .skip
noncomputable def rnCF:Code:=aey [1,1,0,1,0,0,1,0,0] rnBody
noncomputable def rnCB:Code:=aey [1,1,0,1,0,0,1,0,0] rnCF
noncomputable def rnCP:Code:=aey [1] rnCB
noncomputable def rnCT:Code:=aey [1,1,1] rnCB
noncomputable def rnCE:Code:=aey [1,1,1,1,1] rnCB
def gI (T:Int):Int->Int:=fun v=>T-v
def gE (T:Int)(n:Nat)(q:IEdge×Value):IEdge×Value:=(rnE T n q.1,q.2)
def gO (T:Int)(q:IOp×Value):IOp×Value:=(abE T q.1,q.2)
def Sm6 (x:Int):Prop:=-1000000<=x/\x<=1000000
theorem aej (T:Int)(l:List Int):mpK (gI T) l l.length=rnL T l:=aee _ _
theorem aeo {v:Value}{l m:List (IEdge×Value)}(hl:l.length=m.length)(h:l.flatMap za=m.flatMap za):xg v l=xg v m:=by unfold xg;rw[hl,h]
theorem ad2{α β:Type}(f:α->List β){l:List α}{a b:α}(h:f a=f b):(l.set k a).flatMap f=(l.set k b).flatMap f:=by
 rcases Nat.lt_or_ge k l.length with hk|hk
 ·rw[List.set_eq_take_append_cons_drop,List.set_eq_take_append_cons_drop,if_pos hk,if_pos hk];simp only[Nx,Qa,h]
 ·rw[List.set_eq_of_length_le hk,List.set_eq_of_length_le hk]
theorem one5{p o:Value}{k t:Int}{a:Option Addr}{n:Nat}(hp:p.oneCell'=true)(ho:o.oneCell'=true):∀u∈ [p,o,U k,U t,.slice a n c],u.oneCell'=true:=fun u hu=>by
 simp only[Jq,List.not_mem_nil,or_false] at hu;rcases hu with rfl|rfl|rfl|rfl|rfl
 ·exact hp
 ·exact ho
 ·rfl
 ·rfl
 ·rfl
theorem ad5{t n:Nat}{ta b6:Int}{pv ov tv:Value}{tos:List (IEdge×Value)}{rest:List Row}(hT:0<=T/\T<=65535)(hn:n<=1000000)(z0:∀q∈tos,(1<=q.1.block/\q.1.block<(n:Int))/\(∀x∈q.1.args,Sm6 x)/\q.1.args.length<=1000000)(H9:tos.length<=1000000)(hgl:gl.length<=1000000)(l8:pv.oneCell'=true/\ov.oneCell'=true/\tv.oneCell'=true)(z1:zz nb=[pv,ov,U kd,U ta,tv])
 (hm:RwMid w p1 o5 pc [(t,[U kd,U b6,tv],82),(d,[pv,ov,U kd,U ta,tv],84),(g8,[gv],39)] (xg tv tos::(ve tos++(zd gv gl::rest))) wx) (u0 u2 u3 u4 u6 u9 y5 y4 y3 y2 y1 G8 G7 y0 x9 x8 x7 x6 x5 x4 x3 x2 x1 w8 w7 w6 w5 w4 w3 w2 w1 w0 v6 v5 v4 v3 v2 v1 v0 u8 u7 u5 u1 t8 t7 t6 t5 t4 t3 s9 s8 s7 s6 s5 s4 s3 s2 s1 s0 r6 r5 r4 r3 r2 r1 r0 q9 q7 q6 q5 q4 q3 q2 q1 q0 p8 p5 p4 p3 p0 o9 o6 o4 o3 o2 o1 o0 n9 n8 n7 n6 n5 n4 n3 l7 l6 l5 l4 l3 l2 l1 l0 k9 k7 k6 k5 k4 k3 k2 k1 k0 j2 j1 j0 i8 i2 i1 i0 h8 h7 h6 h5 h4 h0 g9 g6 g5 g4 g3 g2 f9 f8 f7 f6 f5 f4 f3 f2 f1 f0 e7 e6 e5 e4 e0 d9 d8 d7 d6 d5 d4 d3 d2 d1 d0 c9 c8 c7 G3 G2 G1 G0 F9 F8 F7 F6 F5 F4 F3 F2 F1 F0 E9 E8 E7 E6 E5 E4 E3 E2 E1 E0 D9 D8 D7 D6 D5 D4 D3 D2 D1 D0 C9 C8 C7 C6 C5 C4 C3 C2 C1 C0 B9 B8 B7 B6 B5 B4 B3 B0 A9 A8 A7 A6 A5 A4 c5 c4 c3 c2 c1 c0:Value) (K:Act->World->Prop) (Q:Exit->Act->World->Prop)
 (hK:∀(gv':Value) (y17 y18 y164 y165 y166 y167 y168 y169 y170 y171 y172 y173 y174 y175 y176 y177 y178 y179 y180 y181 y182 y183 y184 y185 y186 y187 y188 y189 y190 y191 y192 y193 y194 y195 y196 y197 y198 y199 y200 y201 y202 y203 y204 y205 y206 y207 y208 y209 y210 y211 y212 y213 y214 y215 y216 y217 y218 y219 y220 y221:Value) (wy:World),RwMid w p1 o5 pc [(g8,[gv'],39)] (xg tv (tos.map (gE T n))::(ve (tos.map (gE T n))++(zd gv' (gl++ [nb])::rest))) wy->K ⟨#[u0,U T,u2,u3,u4,.pointer (some ⟨o5,0,none⟩),u6,U n,.pointer (some ⟨g8,0,none⟩),u9,.pointer (some ⟨d,0,none⟩),y5,y4,y3,y2,y1,.pointer (some ⟨t,0,none⟩),y17,y18,y0,x9,x8,x7,x6,x5,x4,x3,x2,x1,w8,w7,w6,w5,w4,w3,w2,w1,w0,v6,v5,v4,v3,v2,v1,v0,u8,u7,u5,u1,t8,t7,t6,t5,t4,t3,s9,s8,s7,s6,s5,s4,s3,s2,s1,s0,r6,r5,r4,r3,r2,r1,r0,q9,q7,q6,q5,q4,q3,q2,q1,q0,p8,p5,p4,p3,p0,o9,o6,o4,o3,o2,o1,o0,n9,n8,n7,n6,n5,n4,n3,l7,l6,l5,l4,l3,l2,l1,l0,k9,k7,k6,k5,k4,k3,k2,k1,k0,j2,j1,j0,i8,i2,i1,i0,h8,h7,h6,h5,h4,h0,g9,g6,g5,g4,g3,g2,f9,f8,f7,f6,f5,f4,f3,f2,f1,f0,e7,e6,e5,e4,e0,d9,d8,d7,d6,d5,d4,d3,d2,d1,d0,c9,c8,c7,y164,y165,y166,y167,y168,y169,y170,y171,y172,y173,y174,y175,y176,y177,y178,y179,y180,y181,y182,y183,y184,y185,y186,y187,y188,y189,y190,y191,y192,y193,y194,y195,y196,y197,y198,y199,y200,y201,y202,y203,y204,y205,y206,y207,y208,y209,y210,y211,y212,y213,y214,y215,y216,y217,y218,y219,y220,y221,c5,c4,c3,c2,c1,c0],[]⟩ wy):
 Code.wp Tryz.prog rnCE (Exit.then K Q) ⟨#[u0,U T,u2,u3,u4,.pointer (some ⟨o5,0,none⟩),u6,U n,.pointer (some ⟨g8,0,none⟩),u9,.pointer (some ⟨d,0,none⟩),y5,y4,y3,y2,y1,.pointer (some ⟨t,0,none⟩),G8,G7,y0,x9,x8,x7,x6,x5,x4,x3,x2,x1,w8,w7,w6,w5,w4,w3,w2,w1,w0,v6,v5,v4,v3,v2,v1,v0,u8,u7,u5,u1,t8,t7,t6,t5,t4,t3,s9,s8,s7,s6,s5,s4,s3,s2,s1,s0,r6,r5,r4,r3,r2,r1,r0,q9,q7,q6,q5,q4,q3,q2,q1,q0,p8,p5,p4,p3,p0,o9,o6,o4,o3,o2,o1,o0,n9,n8,n7,n6,n5,n4,n3,l7,l6,l5,l4,l3,l2,l1,l0,k9,k7,k6,k5,k4,k3,k2,k1,k0,j2,j1,j0,i8,i2,i1,i0,h8,h7,h6,h5,h4,h0,g9,g6,g5,g4,g3,g2,f9,f8,f7,f6,f5,f4,f3,f2,f1,f0,e7,e6,e5,e4,e0,d9,d8,d7,d6,d5,d4,d3,d2,d1,d0,c9,c8,c7,G3,G2,G1,G0,F9,F8,F7,F6,F5,F4,F3,F2,F1,F0,E9,E8,E7,E6,E5,E4,E3,E2,E1,E0,D9,D8,D7,D6,D5,D4,D3,D2,D1,D0,C9,C8,C7,C6,C5,C4,C3,C2,C1,C0,B9,B8,B7,B6,B5,B4,B3,B0,A9,A8,A7,A6,A5,A4,c5,c4,c3,c2,c1,c0],[]⟩ wx:=by
 conv=>arg 2;whnf
 have HM:=Ja hm;have A3:=Ja (Jb z0 z1);have HK:=Ja hK;clear hm z0 z1 hK;go_wp2
 go_loopw [17] (fun kv wy=>∃k:Nat,k<=tos.length/\kv=U k/\Hid (RwMid w p1 o5 pc [(t,[U kd,U b6,tv],82),(d,[pv,ov,U kd,U ta,tv],84),(g8,[gv],39)] (xg tv (mpK (gE T n) tos k)::(ve (mpK (gE T n) tos k)++(zd gv gl::rest))) wy)) (fun kv _=>tos.length-(intOf kv).toNat)
 case atStart=>exact⟨0,Jt _,rfl,HM⟩
 case round=>
  obtain⟨k,hk,rfl,g⟩:=hrel;have hb:=(g.out.bx _ (.head _)).1;have t2:A wr t 2 tv:=zA (i:=2) hb rfl;have tl:=lt_of_block hb
  by_cases a0:k<tos.length
  ·obtain⟨⟨⟨eb,c⟩,av⟩,hq⟩:∃q,tos[k]? =some q:=⟨_,Jd a0⟩
   have a3:=adZ (gE T n) hq;obtain⟨ge,ec,a4,z4,z3,hgl,b8⟩:=g.out.getS Zd yd (r:=xg tv (mpK (gE T n) tos k)) (.head _) ⟨rfl,rfl,rfl⟩ a3;have l:tv=F ge tos.length ec:=by rw[aed] at a4;exact a4
   have m:=A3.out.1 _ (Ji hq);have g0:A wr ge (k*2) (U eb):=z4 0 _ rfl;have an:D wr ge (k*2):=z3 0 Zd;have H2:(k:Int)<(tos.length:Int):=Zo;have ad:IntKind.i64.wrap ((n:Int)-eb)=(n:Int)-eb:=Om _ (by have:=m.1.1;have:=m.1.2;simp only at *;omega);have G9:((n:Int)-eb).tmod (n:Int)=(n:Int)-eb:=Int.tmod_eq_of_lt (by have:=m.1.2;simp only at *;omega) (by have:=m.1.1;simp only at *;omega);have af:0<(n:Int):=by have:=m.1.1;have:=m.1.2;simp only at *;omega
   obtain⟨L,hL⟩:∃L,mpK (gE T n) tos k=L:=⟨_,rfl⟩
   rw[hL] at a3 b8;have m2:=g.out;rw[hL] at m2;have z2:=(m2.below (Below.refl _ _).drew).putS yd (r:=xg tv L) (Uq _) ⟨rfl,rfl,rfl⟩ b8 a3 (j:=0) (a:=(⟨(n:Int)-eb,c⟩,av)) (u:=U ((n:Int)-eb)) Zd rfl
   have m1:=z2.perm (RS':=zP av c::(xg tv (L.set k (⟨(n:Int)-eb,c⟩,av))::((L.eraseIdx k).map (fun o=>zP o.2 o.1.args)++(zd gv gl::rest)))) (by
    have hp:=(ad1 (fun o:IEdge×Value=>zP o.2 o.1.args) a3).append_right (zd gv gl::rest)
    exact(hp.cons _).trans (List.Perm.swap _ _ _))
   obtain⟨aa,ac,A2⟩:=m1.formI (.head _);have HQ:=Ja (Jb hq (Jb m (Jb l (Jb b8 (Jb hL (Jb a3 G9))))));have HB:=Ja m1;have ag:c.length<=1000000:=m.2.2;rw[l] at t2;clear hq m a4 l z4 z3 b8 a0 hb m2 z2 m1 a3 hL;go_upto_region 36 with fail;refine zt 13 Zk Zk ?_;simp only[Qo,Uc,Qp,Ui]
   repeat (go_big_quiet_step (fail))
   refine wpQuiet_nil ?_;go_wp2
   go_loopw [18] (fun jv wz=>∃j:Nat,j<=c.length/\jv=U j/\Hid (RwMid w p1 o5 pc [(t,[U kd,U b6,tv],82),(d,[pv,ov,U kd,U ta,tv],84),(g8,[gv],39)] (zP av (mpK (gI T) c j)::(xg tv (L.set k (⟨(n:Int)-eb,c⟩,av))::((L.eraseIdx k).map (fun o=>zP o.2 o.1.args)++(zd gv gl::rest)))) wz)) (fun jv _=>c.length-(intOf jv).toNat)
   case atStart=>exact⟨0,Jt _,rfl,HB⟩
   case round=>
    obtain⟨j,hj,rfl,HJ⟩:=hrel;have hb:=(HJ.out.bx _ (.head _)).1;have t2:A wr t 2 (F ge tos.length ec):=by rw[<-HQ.out.2.2.1];exact zA (i:=2) hb rfl
    have tl:=lt_of_block hb;have A0:(L.set k (⟨(n:Int)-eb,c⟩,av))[k]? =some (⟨(n:Int)-eb,c⟩,av):=Nn (Jh.1 HQ.out.2.2.2.2.2.1).1;obtain⟨z5,_,hgl⟩:=HJ.out.readS Zd yd (r:=xg tv (L.set k (⟨(n:Int)-eb,c⟩,av))) (.tail _ (.head _)) ⟨rfl,rfl,rfl⟩ HQ.out.2.2.2.1 A0;have g1:A wr ge (k*2+1) (.slice aa c.length ac):=by rw[<-A2];exact z5 1 _ rfl
    clear hb z5 A0
    by_cases a0:j<c.length
    ·obtain⟨x,hx⟩:∃x,c[j]? =some x:=⟨_,Jd a0⟩
     have H3:(j:Int)<(c.length:Int):=Zo;obtain⟨ga,ao,n1,x0,xf,xl,xo⟩:=HJ.out.getI (.head _) (adZ (gI T) hx);have e9:aa=some ⟨ga,0,none⟩:=by rw[A2] at n1;injection n1
     subst e9;have y6:=HQ.out.2.1.2.1 x (Ji hx);have ab:IntKind.i64.wrap (T-x)=T-x:=Om _ (by unfold Sm6 at y6;omega);have HX:=Ja (Jb hx xo);clear hx n1 a0 y6 xo;go_upto_region 40 with fail;refine zt 18 Zk Zk ?_;simp only[Qo,Uc,Qp,Ui]
     repeat (go_big_quiet_step (fail))
     refine wpQuiet_nil ?_;go_wp2;have H0:=(Jh.1 HX.out.1).1;refine⟨⟨j+1,H0,by go_num,Ja ?_⟩,by simp[intOf];omega⟩;have h9:=(HJ.out.below (Below.refl _ _).drew).putI (T-x) (Uq _) HX.out.2 (adZ (gI T) HX.out.1);rw[show T-x=gI T x from rfl,aea (gI T) HX.out.1] at h9;exact h9
    ·obtain rfl:j=c.length:=by omega
     have H3:¬(c.length:Int)<(c.length:Int):=Zo;clear a0;go_wp2;have H1:=(Jh.1 HQ.out.1).1;refine⟨⟨k+1,H1,by go_num,Ja ?_⟩,by simp[intOf];omega⟩;have e1:=aea (gE T n) HQ.out.1;rw[HQ.out.2.2.2.2.1] at e1;rw[<-e1];have h9:=HJ.out;rw[aej] at h9
     have e2:xg tv (L.set k (⟨(n:Int)-eb,c⟩,av))=xg tv (L.set k (gE T n (⟨eb,c⟩,av))):=aeo (by rw[Nd,Nd]) (ad2 za (by
      show [U ((n:Int)-eb),av]=[U (((n:Int)-eb).tmod n),av]
      rw[HQ.out.2.2.2.2.2.2]))
     rw[e2] at h9;refine h9.perm ?_;have hp:=(ad7 (fun o:IEdge×Value=>zP o.2 o.1.args) (Jh.1 HQ.out.2.2.2.2.2.1).1 (gE T n (⟨eb,c⟩,av))).append_right (zd gv gl::rest);exact((List.Perm.swap _ _ _).trans (hp.symm.cons _))
  ·obtain rfl:k=tos.length:=by omega
   have H2:¬(tos.length:Int)<(tos.length:Int):=Zo;clear a0;have m0:=g.out;rw[aee] at m0;have a2:=(g.out.bx _ (.tail _ (.head _))).1;have b9:=(g.out.bx _ (.tail _ (.tail _ (.head _)))).1;have b0:A wr d 0 pv:=zA (i:=0) a2 rfl;have b1:A wr d 1 ov:=zA (i:=1) a2 rfl;have b2:A wr d 2 (U kd):=zA (i:=2) a2 rfl;have b3:A wr d 3 (U ta):=zA (i:=3) a2 rfl;have b4:A wr d 4 tv:=zA (i:=4) a2 rfl;have bl:=lt_of_block a2;have g0:A wr g8 0 gv:=zA (i:=0) b9 rfl;have ah:=lt_of_block b9;have m3:=(g.out.bx _ (.tail _ (.tail _ (.head _)))).2.2;obtain⟨ea,ec,a4⟩:=zG (g.out.rows.own _ (.head _));have l:tv=.slice ea tos.length ec:=by have:=a4;unfold xg at this;simp only[aed] at this;exact this
   have a8:zd gv gl∈xg tv (mpK (gE T n) tos tos.length)::(ve (mpK (gE T n) tos tos.length)++(zd gv gl::rest)):=.tail _ (Qf _ (.head _));have a5:=g.out.rows.own _ a8;obtain⟨ga,gc,A1⟩:=zG a5;have b5:gv=.slice ga gl.length gc:=A1;have l9:gv.ownBlock≠some g8:=fun e=>m3 (Nj.2 ⟨_,a8,e⟩)
   have H5:=g.out.lt;have HG:=Ja (Jb a5 (Jb l9 (Jb b9 (Jb m0 (Jb l b5)))));rw[l] at t2 b4;rw[b5] at g0;obtain⟨ii,H4,G6,G5,G4⟩:=info_parts Tryz.info_irblock;clear m0 hb a2 b9 m3 a4 l a8 a5 A1 b5 l9;go_upto_region 41 with fail;go_wp2_with (at_builtin;go_must (refine zK _ rfl (.tmp 217) (.tmp 219) 37 rfl (p1+1+1) 84 ii (.agg #[.slice none 0 0,.slice none 0 0,U 0,U 0,.slice none 0 0]) 5 88 Tryz.underlying37 H4 G6 G5 G4 rfl Zd (.slice ga gl.length gc) gl.length (gl.flatMap zz) rfl (by have h:=HG.out.1;rw[HG.out.2.2.2.2.2] at h;exact h.alloc _) (F wr.heap.size 1 1) 1 [pv,ov,U kd,U ta,.slice ea tos.length ec] rfl (yM.cells (zI rfl) rfl (one5 l8.1 l8.2.1)) (by unfold maxLen;omega) Zo Zt ?_;intro v9 w9 a6 a1 m4;obtain⟨n0,m5,rfl⟩:=zG a6;have b7:=zL a1 (zB HG.out.2.2.1) (by have h:=HG.out.2.1;rw[HG.out.2.2.2.2.2] at h;exact h);have H7:D w9 g8 0:=zE b7;have H6:=lt_of_block b7;have H8:A w9 g8 0 gv:=zA (i:=0) b7 rfl;have n2:=Ja (Jb a6 (Jb a1 m4));clear a6 a1 m4 b7))
   refine HK.out (.slice n0 (gl.length+1) m5) _ _ _ _ _ _ _ _ _ _ _ _ _ _ _ _ _ _ _ _ _ _ _ _ _ _ _ _ _ _ _ _ _ _ _ _ _ _ _ _ _ _ _ _ _ _ _ _ _ _ _ _ _ _ _ _ _ _ _ _ _ ?_;have h1:=HG.out.2.2.2.1.few (B1:=[(t,[U kd,U b6,tv],82),(d,[pv,ov,U kd,U ta,tv],84)]) (B2:=[(g8,[gv],39)]) rfl
   have hp:(xg tv (tos.map (gE T n))::(ve (tos.map (gE T n))++(zd gv gl::rest))).Perm (zd gv gl::(xg tv (tos.map (gE T n))::(ve (tos.map (gE T n))++rest))):=by
    classical
    refine Jp.2 fun y=>?_
    simp only[Nb,Nf];omega
   have h2:=(h1.grow (r':=zd (.slice n0 (gl.length+1) m5) (gl++ [nb])) hp ((Below.refl _ _).alloc (Je _) (I #[pv,ov,U kd,U ta,.slice ea tos.length ec] 84)) (by show World.grownBy _ _ gv.ownBlock;rw[HG.out.2.2.2.2.2];exact n2.out.2.1) (by
    show w9.ownsRow _ _ _ _ (gl++ [nb]).length ((gl++ [nb]).flatMap zz)
    rw[Jk,Nx]
    show w9.ownsRow _ _ _ _ (gl.length+1) (gl.flatMap zz++(zz nb++ []))
    rw[Ua,A3.out.2,HG.out.2.2.2.2.1]
    exact n2.out.1) (fun x e=>by
    rcases n2.out.2.2 with e2|e2
    ·left
     show gv.ownBlock=some x
     rw[HG.out.2.2.2.2.2];exact e2.symm.trans e
    ·right;have e3:=e2.symm.trans e;simp at e3
     omega)).setB rfl (i:=0) (u:=.slice n0 (gl.length+1) m5)
   refine h2.perm ?_
   classical
   refine Jp.2 fun y=>?_
   simp only[Nb,Nf];omega
theorem rnA_eq (T kd ta:Int)(es:List IEdge):rnA T ⟨kd,ta,es⟩=if kd=2∨kd=3∨(kd=4/\0<=ta) then T-ta else ta:=rfl
theorem aes (kd ta:Int):kd=2∨(kd≠2/\kd=3)∨(kd≠2/\kd≠3/\kd=4/\0<=ta)∨(kd≠2/\kd≠3/\kd=4/\¬0<=ta)∨(kd≠2/\kd≠3/\kd≠4):=by omega
theorem rn_term{n:Nat}{ta:Int}{pv ov tv:Value}{tos:List (IEdge×Value)}{rest:List Row}(hT:0<=T/\T<=65535)(hn:n<=1000000)(s4:∀q∈tos,(1<=q.1.block/\q.1.block<(n:Int))/\(∀x∈q.1.args,Sm6 x)/\q.1.args.length<=1000000)(l:tos.length<=1000000)(m:gl.length<=1000000)(D7:Sm6 ta)(g0:pv.oneCell'=true/\ov.oneCell'=true/\tv.oneCell'=true)(s6:zz nb=[pv,ov,U kd,U (rnA T ⟨kd,ta,[]⟩),tv])
 (hm:RwMid w p1 o5 pc [(d,[pv,ov,U kd,U ta,tv],84),(g8,[gv],39)] (xg tv tos::(ve tos++(zd gv gl::rest))) wx) (u0 u2 u3 u4 u6 u9 s3 s2 s1 s0 r6 D6 D5 D4 r5 r4 r3 r2 r1 r0 q9 q7 q6 q5 q4 q3 q2 q1 q0 p8 p5 p4 p3 p0 o9 o6 o4 o3 o2 o1 o0 n9 n8 n7 n6 n5 n4 n3 n2 n1 n0 m5 m4 m3 m2 m1 m0 l9 l8 l7 l6 l5 l4 l3 l2 l1 l0 k9 k7 k6 k5 k4 k3 k2 k1 k0 j2 j1 j0 i8 i2 i1 i0 h9 h8 h7 h6 h0 g9 g6 g5 g4 g3 g2 g1 f7 f6 f5 f4 f3 f2 f1 f0 e9 e7 e6 e5 e1 e0 d9 d8 d7 d6 d5 d4 d3 d2 d1 d0 c9 c8 c7 c5 c4 c2 c1 c0 b9 b8 b7 b6 b5 b1 D2 D1 D0 C9 C8 C7 C6 C5 C4 C3 C2 C1 C0 B9 B8 B7 B6 B5 B4 B3 B2 B0 A9 A8 A7 A6 A5 A4 A3 A2 A1 A0 z5 z4 z3 z2 z1 z0 y6 y5 y4 y3 y2 y1 y0 x9 x8 x7 x6 x5 x4 x3 x2 x1 x0 w9 w8 w7 w6 w5 w4 w3 w2 w1 w0 v9 v6 v5 v4 v3 v2 v1 v0 u8 u7 u5 u1 t8 t7 t6 t5 t4 t3 t2 b0 a8 a6 a5 a4 a3:Value) (K:Act->World->Prop) (Q:Exit->Act->World->Prop)
 (hK:∀(gv':Value) (y16 y17 y18 y138 y139 y140 y141 y142 y143 y144 y145 y146 y147 y148 y149 y150 y151 y152 y153 y154 y155 y156 y157 y158 y159 y160 y161 y162 y163 y164 y165 y166 y167 y168 y169 y170 y171 y172 y173 y174 y175 y176 y177 y178 y179 y180 y181 y182 y183 y184 y185 y186 y187 y188 y189 y190 y191 y192 y193 y194 y195 y196 y197 y198 y199 y200 y201 y202 y203 y204 y205 y206 y207 y208 y209 y210 y211 y212 y213 y214 y215 y216 y217 y218 y219 y220 y221:Value) (wy:World),RwMid w p1 o5 pc [(g8,[gv'],39)] (xg tv (tos.map (gE T n))::(ve (tos.map (gE T n))++(zd gv' (gl++ [nb])::rest))) wy->K ⟨#[u0,U T,u2,u3,u4,.pointer (some ⟨o5,0,none⟩),u6,U n,.pointer (some ⟨g8,0,none⟩),u9,.pointer (some ⟨d,0,none⟩),s3,s2,s1,s0,r6,y16,y17,y18,r5,r4,r3,r2,r1,r0,q9,q7,q6,q5,q4,q3,q2,q1,q0,p8,p5,p4,p3,p0,o9,o6,o4,o3,o2,o1,o0,n9,n8,n7,n6,n5,n4,n3,n2,n1,n0,m5,m4,m3,m2,m1,m0,l9,l8,l7,l6,l5,l4,l3,l2,l1,l0,k9,k7,k6,k5,k4,k3,k2,k1,k0,j2,j1,j0,i8,i2,i1,i0,h9,h8,h7,h6,h0,g9,g6,g5,g4,g3,g2,g1,f7,f6,f5,f4,f3,f2,f1,f0,e9,e7,e6,e5,e1,e0,d9,d8,d7,d6,d5,d4,d3,d2,d1,d0,c9,c8,c7,c5,c4,c2,c1,c0,b9,b8,b7,b6,b5,b1,y138,y139,y140,y141,y142,y143,y144,y145,y146,y147,y148,y149,y150,y151,y152,y153,y154,y155,y156,y157,y158,y159,y160,y161,y162,y163,y164,y165,y166,y167,y168,y169,y170,y171,y172,y173,y174,y175,y176,y177,y178,y179,y180,y181,y182,y183,y184,y185,y186,y187,y188,y189,y190,y191,y192,y193,y194,y195,y196,y197,y198,y199,y200,y201,y202,y203,y204,y205,y206,y207,y208,y209,y210,y211,y212,y213,y214,y215,y216,y217,y218,y219,y220,y221,b0,a8,a6,a5,a4,a3],[]⟩ wy):
 Code.wp Tryz.prog rnCT (Exit.then K Q) ⟨#[u0,U T,u2,u3,u4,.pointer (some ⟨o5,0,none⟩),u6,U n,.pointer (some ⟨g8,0,none⟩),u9,.pointer (some ⟨d,0,none⟩),s3,s2,s1,s0,r6,D6,D5,D4,r5,r4,r3,r2,r1,r0,q9,q7,q6,q5,q4,q3,q2,q1,q0,p8,p5,p4,p3,p0,o9,o6,o4,o3,o2,o1,o0,n9,n8,n7,n6,n5,n4,n3,n2,n1,n0,m5,m4,m3,m2,m1,m0,l9,l8,l7,l6,l5,l4,l3,l2,l1,l0,k9,k7,k6,k5,k4,k3,k2,k1,k0,j2,j1,j0,i8,i2,i1,i0,h9,h8,h7,h6,h0,g9,g6,g5,g4,g3,g2,g1,f7,f6,f5,f4,f3,f2,f1,f0,e9,e7,e6,e5,e1,e0,d9,d8,d7,d6,d5,d4,d3,d2,d1,d0,c9,c8,c7,c5,c4,c2,c1,c0,b9,b8,b7,b6,b5,b1,D2,D1,D0,C9,C8,C7,C6,C5,C4,C3,C2,C1,C0,B9,B8,B7,B6,B5,B4,B3,B2,B0,A9,A8,A7,A6,A5,A4,A3,A2,A1,A0,z5,z4,z3,z2,z1,z0,y6,y5,y4,y3,y2,y1,y0,x9,x8,x7,x6,x5,x4,x3,x2,x1,x0,w9,w8,w7,w6,w5,w4,w3,w2,w1,w0,v9,v6,v5,v4,v3,v2,v1,v0,u8,u7,u5,u1,t8,t7,t6,t5,t4,t3,t2,b0,a8,a6,a5,a4,a3],[]⟩ wx:=by
 obtain⟨ea,ec,s8⟩:=zG (hm.rows.own _ (.head _));have D3:tv=.slice ea tos.length ec:=s8;subst D3
 conv=>arg 2;whnf
 have hb:=(hm.bx _ (.head _)).1;have b2:A wx d 2 (U kd):=zA (i:=2) hb rfl;have b3:A wx d 3 (U ta):=zA (i:=3) hb rfl;have b4:A wx d 4 (.slice ea tos.length ec):=zA (i:=4) hb rfl;have bl:=lt_of_block hb;have s7:=hm.box [U kd,U ta,.slice ea tos.length ec] 82;have y:=Ja (Jb s7 (Jb hK (Jb s4 (Jb g0 s6))));clear hb hm s7 hK s4 g0 s6 s8;refine wp_seq_k fun K1 hK1=>?_
 have s9:=Ja hK1;clear hK1;go_wp2;refine s9.out _ _ ?_;clear s9 b2 b3 b4 bl;obtain⟨j,f9⟩:∃t,wx.heap.size=t:=⟨_,rfl⟩
 rw[f9] at y ⊢;clear f9;generalize hW:wx.alloc (I #[U kd,U ta,.slice ea tos.length ec] 82)=W1 at *;have a0:RwMid w p1 o5 pc [(j,[U kd,U ta,.slice ea tos.length ec],82),(d,[pv,ov,U kd,U ta,.slice ea tos.length ec],84),(g8,[gv],39)] (xg (.slice ea tos.length ec) tos::(ve tos++(zd gv gl::rest))) W1:=y.out.1;clear hW;have a2:=(a0.bx _ (.head _)).1;have a1:=(a0.bx _ (.tail _ (.head _))).1;have t0:A W1 j 0 (U kd):=zA (i:=0) a2 rfl;have t1:A W1 j 1 (U ta):=zA (i:=1) a2 rfl;have tl:=lt_of_block a2;have c3:A W1 d 3 (U ta):=zA (i:=3) a1 rfl;have cf:D W1 d 3:=zE a1;have cl:=lt_of_block a1;have D8:IntKind.i64.wrap (T-ta)=T-ta:=Om _ (by unfold Sm6 at D7;omega);have HC:=Ja a0;clear a2 a1 a0
 have f8:∀(Z:World) (sl:Array Value),(kd=2∨kd=3∨(kd=4/\0<=ta))->Z=W1.setCell ⟨d,3,none⟩ (U (T-ta))->RwMid w p1 o5 pc [(j,[U kd,U ta,.slice ea tos.length ec],82),(d,[pv,ov,U kd,U (rnA T ⟨kd,ta,[]⟩),.slice ea tos.length ec],84),(g8,[gv],39)] (xg (.slice ea tos.length ec) tos::(ve tos++(zd gv gl::rest))) Z:=fun Z sl hk hz=>by
  subst hz;have h1:=HC.out.swap (B1:=[(d,[pv,ov,U kd,U ta,.slice ea tos.length ec],84),(j,[U kd,U ta,.slice ea tos.length ec],82),(g8,[gv],39)]) (List.Perm.swap _ _ _);have h2:=h1.setB rfl (i:=3) (u:=U (T-ta));rw[rnA_eq,if_pos hk];exact h2.swap (List.Perm.swap _ _ _)
 have c:=Ja (Jb y.out.2.1 (Jb y.out.2.2.1 (Jb y.out.2.2.2.1 y.out.2.2.2.2)));clear y
 have s5:∀(sl:Array Value),¬(kd=2∨kd=3∨(kd=4/\0<=ta))->RwMid w p1 o5 pc [(j,[U kd,U ta,.slice ea tos.length ec],82),(d,[pv,ov,U kd,U (rnA T ⟨kd,ta,[]⟩),.slice ea tos.length ec],84),(g8,[gv],39)] (xg (.slice ea tos.length ec) tos::(ve tos++(zd gv gl::rest))) W1:=fun sl hk=>by
  rw[rnA_eq,if_neg hk];exact HC.out
 have HY:=Ja (Jb f8 s5);clear f8 s5 HC;rcases aes kd ta with h|⟨h,o⟩|⟨h,o,h3,h4⟩|⟨h,o,h3,h4⟩|⟨h,o,h3⟩
 ·have e2:(kd==2)=true:=beq_iff_eq.2 h;refine wp_seq_k fun K2 hK2=>?_
  have g:=Ja hK2;clear hK2;go_wp2;refine g.out _ _ ?_;refine ad5 hT hn c.out.2.1 l m c.out.2.2.1 c.out.2.2.2 (HY.out.1 _ #[] (.inl h) rfl) _ _ _ _ _ _ _ _ _ _ _ _ _ _ _ _ _ _ _ _ _ _ _ _ _ _ _ _ _ _ _ _ _ _ _ _ _ _ _ _ _ _ _ _ _ _ _ _ _ _ _ _ _ _ _ _ _ _ _ _ _ _ _ _ _ _ _ _ _ _ _ _ _ _ _ _ _ _ _ _ _ _ _ _ _ _ _ _ _ _ _ _ _ _ _ _ _ _ _ _ _ _ _ _ _ _ _ _ _ _ _ _ _ _ _ _ _ _ _ _ _ _ _ _ _ _ _ _ _ _ _ _ _ _ _ _ _ _ _ _ _ _ _ _ _ _ _ _ _ _ _ _ _ _ _ _ _ _ _ _ _ _ _ _ _ _ _ _ _ _ _ _ _ _ _ _ _ _ _ _ _ _ _ _ _ _ _ _ _ _ _ _ _ _ _ _ _ _ _ _ _ _ _ _ _ _ _ _ _ _ _ _ _ _ _ _ _ _ _ _ _ _ K Q ?_;intro gv' y17 y18 y164 y165 y166 y167 y168 y169 y170 y171 y172 y173 y174 y175 y176 y177 y178 y179 y180 y181 y182 y183 y184 y185 y186 y187 y188 y189 y190 y191 y192 y193 y194 y195 y196 y197 y198 y199 y200 y201 y202 y203 y204 y205 y206 y207 y208 y209 y210 y211 y212 y213 y214 y215 y216 y217 y218 y219 y220 y221 wy k;exact c.out.1 gv' _ _ _ _ _ _ _ _ _ _ _ _ _ _ _ _ _ _ _ _ _ _ _ _ _ _ _ _ _ _ _ _ _ _ _ _ _ _ _ _ _ _ _ _ _ _ _ _ _ _ _ _ _ _ _ _ _ _ _ _ _ _ _ _ _ _ _ _ _ _ _ _ _ _ _ _ _ _ _ _ _ _ _ _ _ _ _ wy k
 ·have e2:(kd==2)=false:=beq_eq_false_iff_ne.2 h;have e3:(kd==3)=true:=beq_iff_eq.2 o;refine wp_seq_k fun K2 hK2=>?_
  have g:=Ja hK2;clear hK2;go_wp2;refine g.out _ _ ?_;refine ad5 hT hn c.out.2.1 l m c.out.2.2.1 c.out.2.2.2 (HY.out.1 _ #[] (.inr (.inl o)) rfl) _ _ _ _ _ _ _ _ _ _ _ _ _ _ _ _ _ _ _ _ _ _ _ _ _ _ _ _ _ _ _ _ _ _ _ _ _ _ _ _ _ _ _ _ _ _ _ _ _ _ _ _ _ _ _ _ _ _ _ _ _ _ _ _ _ _ _ _ _ _ _ _ _ _ _ _ _ _ _ _ _ _ _ _ _ _ _ _ _ _ _ _ _ _ _ _ _ _ _ _ _ _ _ _ _ _ _ _ _ _ _ _ _ _ _ _ _ _ _ _ _ _ _ _ _ _ _ _ _ _ _ _ _ _ _ _ _ _ _ _ _ _ _ _ _ _ _ _ _ _ _ _ _ _ _ _ _ _ _ _ _ _ _ _ _ _ _ _ _ _ _ _ _ _ _ _ _ _ _ _ _ _ _ _ _ _ _ _ _ _ _ _ _ _ _ _ _ _ _ _ _ _ _ _ _ _ _ _ _ _ _ _ _ _ _ _ _ _ _ _ _ _ K Q ?_;intro gv' y17 y18 y164 y165 y166 y167 y168 y169 y170 y171 y172 y173 y174 y175 y176 y177 y178 y179 y180 y181 y182 y183 y184 y185 y186 y187 y188 y189 y190 y191 y192 y193 y194 y195 y196 y197 y198 y199 y200 y201 y202 y203 y204 y205 y206 y207 y208 y209 y210 y211 y212 y213 y214 y215 y216 y217 y218 y219 y220 y221 wy k;exact c.out.1 gv' _ _ _ _ _ _ _ _ _ _ _ _ _ _ _ _ _ _ _ _ _ _ _ _ _ _ _ _ _ _ _ _ _ _ _ _ _ _ _ _ _ _ _ _ _ _ _ _ _ _ _ _ _ _ _ _ _ _ _ _ _ _ _ _ _ _ _ _ _ _ _ _ _ _ _ _ _ _ _ _ _ _ _ _ _ _ _ wy k
 ·have e2:(kd==2)=false:=beq_eq_false_iff_ne.2 h;have e3:(kd==3)=false:=beq_eq_false_iff_ne.2 o;have e4:(kd==4)=true:=beq_iff_eq.2 h3;refine wp_seq_k fun K2 hK2=>?_
  have g:=Ja hK2;clear hK2;go_wp2;refine g.out _ _ ?_;refine ad5 hT hn c.out.2.1 l m c.out.2.2.1 c.out.2.2.2 (HY.out.1 _ #[] (.inr (.inr ⟨h3,h4⟩)) rfl) _ _ _ _ _ _ _ _ _ _ _ _ _ _ _ _ _ _ _ _ _ _ _ _ _ _ _ _ _ _ _ _ _ _ _ _ _ _ _ _ _ _ _ _ _ _ _ _ _ _ _ _ _ _ _ _ _ _ _ _ _ _ _ _ _ _ _ _ _ _ _ _ _ _ _ _ _ _ _ _ _ _ _ _ _ _ _ _ _ _ _ _ _ _ _ _ _ _ _ _ _ _ _ _ _ _ _ _ _ _ _ _ _ _ _ _ _ _ _ _ _ _ _ _ _ _ _ _ _ _ _ _ _ _ _ _ _ _ _ _ _ _ _ _ _ _ _ _ _ _ _ _ _ _ _ _ _ _ _ _ _ _ _ _ _ _ _ _ _ _ _ _ _ _ _ _ _ _ _ _ _ _ _ _ _ _ _ _ _ _ _ _ _ _ _ _ _ _ _ _ _ _ _ _ _ _ _ _ _ _ _ _ _ _ _ _ _ _ _ _ _ _ K Q ?_;intro gv' y17 y18 y164 y165 y166 y167 y168 y169 y170 y171 y172 y173 y174 y175 y176 y177 y178 y179 y180 y181 y182 y183 y184 y185 y186 y187 y188 y189 y190 y191 y192 y193 y194 y195 y196 y197 y198 y199 y200 y201 y202 y203 y204 y205 y206 y207 y208 y209 y210 y211 y212 y213 y214 y215 y216 y217 y218 y219 y220 y221 wy k;exact c.out.1 gv' _ _ _ _ _ _ _ _ _ _ _ _ _ _ _ _ _ _ _ _ _ _ _ _ _ _ _ _ _ _ _ _ _ _ _ _ _ _ _ _ _ _ _ _ _ _ _ _ _ _ _ _ _ _ _ _ _ _ _ _ _ _ _ _ _ _ _ _ _ _ _ _ _ _ _ _ _ _ _ _ _ _ _ _ _ _ _ wy k
 ·have e2:(kd==2)=false:=beq_eq_false_iff_ne.2 h;have e3:(kd==3)=false:=beq_eq_false_iff_ne.2 o;have e4:(kd==4)=true:=beq_iff_eq.2 h3;have h5:ta<0:=Zo;refine wp_seq_k fun K2 hK2=>?_
  have g:=Ja hK2;clear hK2;go_wp2;refine g.out _ _ ?_;refine ad5 hT hn c.out.2.1 l m c.out.2.2.1 c.out.2.2.2 (HY.out.2 #[] Zo) _ _ _ _ _ _ _ _ _ _ _ _ _ _ _ _ _ _ _ _ _ _ _ _ _ _ _ _ _ _ _ _ _ _ _ _ _ _ _ _ _ _ _ _ _ _ _ _ _ _ _ _ _ _ _ _ _ _ _ _ _ _ _ _ _ _ _ _ _ _ _ _ _ _ _ _ _ _ _ _ _ _ _ _ _ _ _ _ _ _ _ _ _ _ _ _ _ _ _ _ _ _ _ _ _ _ _ _ _ _ _ _ _ _ _ _ _ _ _ _ _ _ _ _ _ _ _ _ _ _ _ _ _ _ _ _ _ _ _ _ _ _ _ _ _ _ _ _ _ _ _ _ _ _ _ _ _ _ _ _ _ _ _ _ _ _ _ _ _ _ _ _ _ _ _ _ _ _ _ _ _ _ _ _ _ _ _ _ _ _ _ _ _ _ _ _ _ _ _ _ _ _ _ _ _ _ _ _ _ _ _ _ _ _ _ _ _ _ _ _ _ _ K Q ?_;intro gv' y17 y18 y164 y165 y166 y167 y168 y169 y170 y171 y172 y173 y174 y175 y176 y177 y178 y179 y180 y181 y182 y183 y184 y185 y186 y187 y188 y189 y190 y191 y192 y193 y194 y195 y196 y197 y198 y199 y200 y201 y202 y203 y204 y205 y206 y207 y208 y209 y210 y211 y212 y213 y214 y215 y216 y217 y218 y219 y220 y221 wy k;exact c.out.1 gv' _ _ _ _ _ _ _ _ _ _ _ _ _ _ _ _ _ _ _ _ _ _ _ _ _ _ _ _ _ _ _ _ _ _ _ _ _ _ _ _ _ _ _ _ _ _ _ _ _ _ _ _ _ _ _ _ _ _ _ _ _ _ _ _ _ _ _ _ _ _ _ _ _ _ _ _ _ _ _ _ _ _ _ _ _ _ _ wy k
 ·have e2:(kd==2)=false:=beq_eq_false_iff_ne.2 h;have e3:(kd==3)=false:=beq_eq_false_iff_ne.2 o;have e4:(kd==4)=false:=beq_eq_false_iff_ne.2 h3;refine wp_seq_k fun K2 hK2=>?_
  have g:=Ja hK2;clear hK2;go_wp2;refine g.out _ _ ?_;refine ad5 hT hn c.out.2.1 l m c.out.2.2.1 c.out.2.2.2 (HY.out.2 #[] Zo) _ _ _ _ _ _ _ _ _ _ _ _ _ _ _ _ _ _ _ _ _ _ _ _ _ _ _ _ _ _ _ _ _ _ _ _ _ _ _ _ _ _ _ _ _ _ _ _ _ _ _ _ _ _ _ _ _ _ _ _ _ _ _ _ _ _ _ _ _ _ _ _ _ _ _ _ _ _ _ _ _ _ _ _ _ _ _ _ _ _ _ _ _ _ _ _ _ _ _ _ _ _ _ _ _ _ _ _ _ _ _ _ _ _ _ _ _ _ _ _ _ _ _ _ _ _ _ _ _ _ _ _ _ _ _ _ _ _ _ _ _ _ _ _ _ _ _ _ _ _ _ _ _ _ _ _ _ _ _ _ _ _ _ _ _ _ _ _ _ _ _ _ _ _ _ _ _ _ _ _ _ _ _ _ _ _ _ _ _ _ _ _ _ _ _ _ _ _ _ _ _ _ _ _ _ _ _ _ _ _ _ _ _ _ _ _ _ _ _ _ _ _ K Q ?_;intro gv' y17 y18 y164 y165 y166 y167 y168 y169 y170 y171 y172 y173 y174 y175 y176 y177 y178 y179 y180 y181 y182 y183 y184 y185 y186 y187 y188 y189 y190 y191 y192 y193 y194 y195 y196 y197 y198 y199 y200 y201 y202 y203 y204 y205 y206 y207 y208 y209 y210 y211 y212 y213 y214 y215 y216 y217 y218 y219 y220 y221 wy k;exact c.out.1 gv' _ _ _ _ _ _ _ _ _ _ _ _ _ _ _ _ _ _ _ _ _ _ _ _ _ _ _ _ _ _ _ _ _ _ _ _ _ _ _ _ _ _ _ _ _ _ _ _ _ _ _ _ _ _ _ _ _ _ _ _ _ _ _ _ _ _ _ _ _ _ _ _ _ _ _ _ _ _ _ _ _ _ _ _ _ _ _ wy k
noncomputable def rnCOh:Code:=aey [1,1,0] rnCB
noncomputable def rnCPh:Code:=aey [1,0] rnCB
theorem aez{v:Value}{L:List (IOp×Value)}{q:IOp×Value}(h:L[k]? =some q):tt v L=tt v (L.set k q):=by
 obtain⟨hk,rfl⟩:=Jh.1 h;rw[List.set_getElem_self]
theorem aek {v:Value}{l m:List (IOp×Value)}(hl:l.length=m.length)(h:l.flatMap zU=m.flatMap zU):tt v l=tt v m:=by unfold tt;rw[hl,h]
section
variable {w wx:World} {p1 o5:Nat} {pc:List Value} {BX:List (Nat×List Value×TypeId)} {R:List Row}
theorem RwMid.opPut{ov av:Value}{L:List (IOp×Value)}{ge:Nat}{a b:IOp}{u:Value}(h:RwMid w p1 o5 pc BX (tt ov (L.set k (a,av))::R) wx)(hk:k<L.length)(hg:ov.ownBlock=some ge)(d:j<6)(c:(zU (a,av)).set j u=zU (b,av)):RwMid w p1 o5 pc BX (tt ov (L.set k (b,av))::R) (wx.setCell ⟨ge,k*6+j,none⟩ u):=by
 have h1:=h.putS z7 (r:=tt ov (L.set k (a,av))) (Uq _) ⟨rfl,rfl,rfl⟩ hg (k:=k) (a:=(b,av)) (b:=(a,av)) (by rw[Nn hk]) d c;rw[List.set_set] at h1;exact h1
theorem RwMid.opGet{ov av:Value}{L:List (IOp×Value)}{ge:Nat}{a:IOp}(h:RwMid w p1 o5 pc BX (tt ov (L.set k (a,av))::R) wx)(hk:k<L.length)(hg:ov.ownBlock=some ge):(∀j,j<6->D wx ge (k*6+j))/\ge<wx.heap.size/\∀j u,(zU (a,av))[j]? =some u->A wx ge (k*6+j) u:=by
 obtain⟨h1,h2,h3⟩:=h.readS Zd z7 (r:=tt ov (L.set k (a,av))) (.head _) ⟨rfl,rfl,rfl⟩ hg (k:=k) (b:=(a,av)) (by rw[Nn hk]);exact⟨h2,h3,h1⟩
end
theorem rn_ops{ta:Int}{pv ov tv:Value}{ops:List (IOp×Value)}{B2:List (Nat×List Value×TypeId)}{rest:List Row}(hT:0<=T/\T<=65535)(o1:∀q∈ops,Sm6 q.1.res/\Sm6 q.1.a/\Sm6 q.1.b/\(∀x∈q.1.args,Sm6 x)/\q.1.args.length<=1000000)(ab:ops.length<=1000000)
 (hm:RwMid w p1 o5 pc ((d,[pv,ov,U kd,U ta,tv],84)::B2) (tt ov ops::(wI ops++rest)) wx) (u0 u2 u3 u4 u6 u7 u8 u9 x7 H0 G9 G8 G7 u16 x6 x4 w9 w8 w7 w6 w5 w4 w3 w2 w0 v9 v6 v5 v4 v3 v2 v1 v0 u5 u1 t8 t7 t6 t5 t4 t3 t2 s9 s8 s7 s6 s5 s4 s1 s0 r6 r5 r4 r3 r2 r1 r0 q9 q7 q6 q5 q4 q3 q2 q1 q0 p8 p5 G6 G5 G4 G3 G2 G1 G0 F9 F8 F7 F6 F5 F4 F3 F2 F1 F0 E9 E8 E7 E6 E5 E4 E3 E2 E1 E0 D9 D8 D6 D5 D4 D3 D2 D1 D0 C9 C8 C7 C6 C5 C4 C3 C2 C1 C0 B9 B8 B7 B6 B5 B4 B3 B0 A9 A8 A7 A6 A5 A4 A3 A2 A1 A0 z5 z4 z3 n8 n7 n6 n5 n4 n3 n2 n1 n0 m5 m4 m3 m2 m1 m0 l9 l8 l7 l6 l5 l4 l3 l2 l1 l0 k9 k7 k6 k5 k4 k3 k2 k1 k0 j2 j1 j0 i8 i2 i1 i0 h6 h5 h4 h0 g9 g8 g6 f9 f8 f7 f6 f5 f4 f3 f2 f1 f0 e7 e6 e5 e4 e3 e0 d9 d8 d7 d6 d5 d4 d3 d2 d1 d0 c9 c8 c7 c5 c4 c3 c2 c1 c0 b9 b8 b7 b6 b5 b4 b3:Value) (K:Act->World->Prop) (Q:Exit->Act->World->Prop)
 (hK:∀(y12 y13 y14 y15 y71 y72 y73 y74 y75 y76 y77 y78 y79 y80 y81 y82 y83 y84 y85 y86 y87 y88 y89 y90 y91 y92 y93 y94 y95 y96 y97 y98 y99 y100 y101 y102 y103 y104 y105 y106 y107 y108 y109 y110 y111 y112 y113 y114 y115 y116 y117 y118 y119 y120 y121 y122 y123 y124 y125 y126 y127 y128 y129 y130 y131 y132 y133 y134 y135 y136 y137:Value) (wy:World),RwMid w p1 o5 pc ((d,[pv,ov,U kd,U ta,tv],84)::B2) (tt ov (ops.map (gO T))::(wI (ops.map (gO T))++rest)) wy->K ⟨#[u0,U T,u2,u3,u4,.pointer (some ⟨o5,0,none⟩),u6,u7,u8,u9,.pointer (some ⟨d,0,none⟩),x7,y12,y13,y14,y15,u16,x6,x4,w9,w8,w7,w6,w5,w4,w3,w2,w0,v9,v6,v5,v4,v3,v2,v1,v0,u5,u1,t8,t7,t6,t5,t4,t3,t2,s9,s8,s7,s6,s5,s4,s1,s0,r6,r5,r4,r3,r2,r1,r0,q9,q7,q6,q5,q4,q3,q2,q1,q0,p8,p5,y71,y72,y73,y74,y75,y76,y77,y78,y79,y80,y81,y82,y83,y84,y85,y86,y87,y88,y89,y90,y91,y92,y93,y94,y95,y96,y97,y98,y99,y100,y101,y102,y103,y104,y105,y106,y107,y108,y109,y110,y111,y112,y113,y114,y115,y116,y117,y118,y119,y120,y121,y122,y123,y124,y125,y126,y127,y128,y129,y130,y131,y132,y133,y134,y135,y136,y137,n8,n7,n6,n5,n4,n3,n2,n1,n0,m5,m4,m3,m2,m1,m0,l9,l8,l7,l6,l5,l4,l3,l2,l1,l0,k9,k7,k6,k5,k4,k3,k2,k1,k0,j2,j1,j0,i8,i2,i1,i0,h6,h5,h4,h0,g9,g8,g6,f9,f8,f7,f6,f5,f4,f3,f2,f1,f0,e7,e6,e5,e4,e3,e0,d9,d8,d7,d6,d5,d4,d3,d2,d1,d0,c9,c8,c7,c5,c4,c3,c2,c1,c0,b9,b8,b7,b6,b5,b4,b3],[]⟩ wy):
 Code.wp Tryz.prog rnCOh (Exit.then K Q) ⟨#[u0,U T,u2,u3,u4,.pointer (some ⟨o5,0,none⟩),u6,u7,u8,u9,.pointer (some ⟨d,0,none⟩),x7,H0,G9,G8,G7,u16,x6,x4,w9,w8,w7,w6,w5,w4,w3,w2,w0,v9,v6,v5,v4,v3,v2,v1,v0,u5,u1,t8,t7,t6,t5,t4,t3,t2,s9,s8,s7,s6,s5,s4,s1,s0,r6,r5,r4,r3,r2,r1,r0,q9,q7,q6,q5,q4,q3,q2,q1,q0,p8,p5,G6,G5,G4,G3,G2,G1,G0,F9,F8,F7,F6,F5,F4,F3,F2,F1,F0,E9,E8,E7,E6,E5,E4,E3,E2,E1,E0,D9,D8,D6,D5,D4,D3,D2,D1,D0,C9,C8,C7,C6,C5,C4,C3,C2,C1,C0,B9,B8,B7,B6,B5,B4,B3,B0,A9,A8,A7,A6,A5,A4,A3,A2,A1,A0,z5,z4,z3,n8,n7,n6,n5,n4,n3,n2,n1,n0,m5,m4,m3,m2,m1,m0,l9,l8,l7,l6,l5,l4,l3,l2,l1,l0,k9,k7,k6,k5,k4,k3,k2,k1,k0,j2,j1,j0,i8,i2,i1,i0,h6,h5,h4,h0,g9,g8,g6,f9,f8,f7,f6,f5,f4,f3,f2,f1,f0,e7,e6,e5,e4,e3,e0,d9,d8,d7,d6,d5,d4,d3,d2,d1,d0,c9,c8,c7,c5,c4,c3,c2,c1,c0,b9,b8,b7,b6,b5,b4,b3],[]⟩ wx:=by
 conv=>arg 2;whnf
 have HM:=Ja hm;have z1:=Ja o1;have HK:=Ja hK;clear hm o1 hK;go_wp2
 go_loopw [12] (fun kv wy=>∃k:Nat,k<=ops.length/\kv=U k/\Hid (RwMid w p1 o5 pc ((d,[pv,ov,U kd,U ta,tv],84)::B2) (tt ov (mpK (gO T) ops k)::(wI (mpK (gO T) ops k)++rest)) wy)) (fun kv _=>ops.length-(intOf kv).toNat)
 case atStart=>exact⟨0,Jt _,rfl,HM⟩
 case round=>
  obtain⟨k,hk,rfl,b0⟩:=hrel;have hb:=(b0.out.bx _ (.head _)).1;have b1:A wr d 1 ov:=zA (i:=1) hb rfl;have bl:=lt_of_block hb
  by_cases a1:k<ops.length
  ·obtain⟨⟨⟨oc,ors,oa,ob,on,oargs⟩,av⟩,hq⟩:∃q,ops[k]? =some q:=⟨_,Jd a1⟩
   obtain⟨L,hL⟩:∃L,mpK (gO T) ops k=L:=⟨_,rfl⟩
   have a4:=adZ (gO T) hq;have a5:=b0.out;rw[hL] at a4 a5;have y4:L.length=ops.length:=by rw[<-hL,aed]
   obtain⟨ge,ec,a6,c,m,H5,H4⟩:=a5.getS Zd z7 (r:=tt ov L) (.head _) ⟨rfl,rfl,rfl⟩ a4;have b2:ov=.slice (some ⟨ge,0,none⟩) ops.length ec:=by rw[y4] at a6;exact a6
   have o2:zP av oargs∈tt ov L::(wI L++rest):=.tail _ (Jz _ (Nu.2 ⟨_,Ji a4,rfl⟩));obtain⟨aa,ac,H7⟩:=a5.formI o2;subst H7;subst b2;have g0:A wr ge (k*6) (U oc):=c 0 _ rfl;have g1:A wr ge (k*6+1) (U ors):=c 1 _ rfl;have g2:A wr ge (k*6+2) (U oa):=c 2 _ rfl;have g3:A wr ge (k*6+3) (U ob):=c 3 _ rfl;have g4:A wr ge (k*6+4) (Y on):=c 4 _ rfl;have g5:A wr ge (k*6+5) (.slice aa oargs.length ac):=c 5 _ rfl;have a8:(k:Int)<(ops.length:Int):=Zo;have o0:=z1.out _ (Ji hq);have ad:oargs.length<=1000000:=o0.2.2.2.2;rw[aez a4] at a5;have y3:=a5.box [U oc,U ors,U oa,U ob,Y on,.slice aa oargs.length ac] 76;have HL:=Ja (Jb (by omega:k<L.length) (Jb a8 o0));have HS:=Ja (Jb hq (Jb hL a4));have HB:=Ja y3;clear hb a1 hq a4 a5 y4 a6 c m H4 o2 o0 hL y3;go_upto_region 18 with fail
   rename_i o4
   have p4:=Ja o4;clear o4;go_wp2;refine p4.out _ _ ?_;clear p4;refine wp_seq_k fun K19 hK19=>?_
   have p3:=Ja hK19;clear hK19;go_wp2_with (first|(go_at_call 52;go_must (refine(aaK oc _).mono ?_;rintro e w1 ⟨rfl,g⟩;unfold acg)))
   refine p3.out _ _ ?_;clear p3;obtain⟨⟨fi,fr,fa,fb,fn⟩,hF⟩:∃F,zi oc=F:=⟨_,rfl⟩
   rw[hF];have y1:=(HB.out.below g).box [.bool fi,.bool fr,.bool fa,.bool fb,.bool fn] 120;have HX:=Ja y1;clear HB g y1 b0 HM z1 b1 bl g0 g1 g2 g3 g4 g5 H5;generalize H6:w1.alloc _=W2 at *;clear H6;obtain⟨y,y6⟩:∃t,wr.heap.size=t:=⟨_,rfl⟩
   obtain⟨a0,y5⟩:∃t,w1.heap.size=t:=⟨_,rfl⟩
   rw[y6,y5] at HX ⊢;clear y6 y5;refine wp_seq_k fun K20 hK20=>?_
   have p0:=Ja hK20;clear hK20
   go_cut [] from 71 to 97 (fun wz=>Hid (RwMid w p1 o5 pc ((a0,[.bool fi,.bool fr,.bool fa,.bool fb,.bool fn],120)::(y,[U oc,U ors,U oa,U ob,Y on,.slice aa oargs.length ac],76)::((d,[pv,.slice (some ⟨ge,0,none⟩) ops.length ec,U kd,U ta,tv],84)::B2)) (tt (.slice (some ⟨ge,0,none⟩) ops.length ec) (L.set k (⟨oc,(if 0<=ors then T-ors else ors),oa,ob,on,oargs⟩,(.slice aa oargs.length ac)))::(wI L++rest)) wz))
   case first=>
    have g:=(HX.out.bx _ (.head _)).1;have l:=(HX.out.bx _ (.tail _ (.head _))).1;have h:=(HX.out.bx _ (.tail _ (.tail _ (.head _)))).1;have x1:A W2 y 1 (U ors):=zA (i:=1) l rfl;have xl:=lt_of_block l;have b1:A W2 d 1 (.slice (some ⟨ge,0,none⟩) ops.length ec):=zA (i:=1) h rfl;have bl:=lt_of_block h;obtain⟨m,y2,c⟩:=HX.out.opGet HL.out.1 rfl;have gf:D W2 ge (k*6+1):=m 1 Zd;have gc:A W2 ge (k*6+1) (U ors):=c 1 _ rfl;have a8:(k:Int)<(ops.length:Int):=HL.out.2.1;have n9:IntKind.i64.wrap (T-ors)=T-ors:=Om _ (by have h7:=HL.out.2.2.1;unfold Sm6 at h7;omega);clear g l h m c
    by_cases D7:0<=ors
    ·go_wp2;go_meet;rw[if_pos D7];exact Ja (HX.out.opPut HL.out.1 rfl Zd rfl)
    ·have H8:ors<0:=Zo;go_wp2;go_meet;rw[if_neg Zo];exact HX
   refine p0.out _ _ ?_;clear p0 HX;have a3:=hcut;clear hcut;refine wp_seq_k fun K22 hK22=>?_
   have o9:=Ja hK22;clear hK22
   go_cut [] from 98 to 108 (fun wz=>Hid (RwMid w p1 o5 pc ((a0,[.bool fi,.bool fr,.bool fa,.bool fb,.bool fn],120)::(y,[U oc,U ors,U oa,U ob,Y on,.slice aa oargs.length ac],76)::((d,[pv,.slice (some ⟨ge,0,none⟩) ops.length ec,U kd,U ta,tv],84)::B2)) (tt (.slice (some ⟨ge,0,none⟩) ops.length ec) (L.set k (⟨oc,(if 0<=ors then T-ors else ors),(if fa=true then T-oa else oa),ob,on,oargs⟩,(.slice aa oargs.length ac)))::(wI L++rest)) wz))
   case first=>
    have g:=(a3.out.bx _ (.head _)).1;have l:=(a3.out.bx _ (.tail _ (.head _))).1;have h:=(a3.out.bx _ (.tail _ (.tail _ (.head _)))).1;have x2:A wc y 2 (U oa):=zA (i:=2) l rfl;have xl:=lt_of_block l;have b1:A wc d 1 (.slice (some ⟨ge,0,none⟩) ops.length ec):=zA (i:=1) h rfl;have bl:=lt_of_block h;obtain⟨m,y2,c⟩:=a3.out.opGet HL.out.1 rfl;have gf:D wc ge (k*6+2):=m 2 Zd;have gc:A wc ge (k*6+2) (U oa):=c 2 _ rfl;have a8:(k:Int)<(ops.length:Int):=HL.out.2.1;have n9:IntKind.i64.wrap (T-oa)=T-oa:=Om _ (by have h7:=HL.out.2.2.2.1;unfold Sm6 at h7;omega);have s2:A wc a0 2 (.bool fa):=zA (i:=2) g rfl;have sl:=lt_of_block g;clear g l h m c;rcases(Bool.eq_false_or_eq_true fa) with e|e
    ·rw[e] at s2;have hp:=a3.out.opPut (j:=2) (u:=U (T-oa)) (b:=⟨oc,(if 0<=ors then T-ors else ors),(if fa=true then T-oa else oa),ob,on,oargs⟩) HL.out.1 rfl Zd (by rw[e];rfl);go_wp2;go_meet;exact Ja hp
    ·rw[e] at s2;go_wp2;go_meet;have h9:=a3.out;rw[if_neg (show ¬(fa=true) by rw[e];decide)];exact Ja h9
   refine o9.out _ _ ?_;clear o9 a3;have a2:=hcut;clear hcut;refine wp_seq_k fun K24 hK24=>?_
   have o6:=Ja hK24;clear hK24
   go_cut [] from 109 to 119 (fun wz=>Hid (RwMid w p1 o5 pc ((a0,[.bool fi,.bool fr,.bool fa,.bool fb,.bool fn],120)::(y,[U oc,U ors,U oa,U ob,Y on,.slice aa oargs.length ac],76)::((d,[pv,.slice (some ⟨ge,0,none⟩) ops.length ec,U kd,U ta,tv],84)::B2)) (tt (.slice (some ⟨ge,0,none⟩) ops.length ec) (L.set k (⟨oc,(if 0<=ors then T-ors else ors),(if fa=true then T-oa else oa),(if fb=true then T-ob else ob),on,oargs⟩,(.slice aa oargs.length ac)))::(wI L++rest)) wz))
   case first=>
    have g:=(a2.out.bx _ (.head _)).1;have l:=(a2.out.bx _ (.tail _ (.head _))).1;have h:=(a2.out.bx _ (.tail _ (.tail _ (.head _)))).1;have x3:A wc y 3 (U ob):=zA (i:=3) l rfl;have xl:=lt_of_block l;have b1:A wc d 1 (.slice (some ⟨ge,0,none⟩) ops.length ec):=zA (i:=1) h rfl;have bl:=lt_of_block h;obtain⟨m,y2,c⟩:=a2.out.opGet HL.out.1 rfl;have gf:D wc ge (k*6+3):=m 3 Zd;have gc:A wc ge (k*6+3) (U ob):=c 3 _ rfl;have a8:(k:Int)<(ops.length:Int):=HL.out.2.1;have n9:IntKind.i64.wrap (T-ob)=T-ob:=Om _ (by have h7:=HL.out.2.2.2.2.1;unfold Sm6 at h7;omega);have s3:A wc a0 3 (.bool fb):=zA (i:=3) g rfl;have sl:=lt_of_block g;clear g l h m c;rcases(Bool.eq_false_or_eq_true fb) with e|e
    ·rw[e] at s3;have hp:=a2.out.opPut (j:=3) (u:=U (T-ob)) (b:=⟨oc,(if 0<=ors then T-ors else ors),(if fa=true then T-oa else oa),(if fb=true then T-ob else ob),on,oargs⟩) HL.out.1 rfl Zd (by rw[e];rfl);go_wp2;go_meet;exact Ja hp
    ·rw[e] at s3;go_wp2;go_meet;have h9:=a2.out;rw[if_neg (show ¬(fb=true) by rw[e];decide)];exact Ja h9
   refine o6.out _ _ ?_;clear o6 a2;have z2:=hcut;clear hcut;have y0:=z2.out
   have x9:=y0.perm (RS':=zP (.slice aa oargs.length ac) oargs::(tt (.slice (some ⟨ge,0,none⟩) ops.length ec) (L.set k (⟨oc,(if 0<=ors then T-ors else ors),(if fa=true then T-oa else oa),(if fb=true then T-ob else ob),on,oargs⟩,(.slice aa oargs.length ac)))::((L.eraseIdx k).map (fun o=>zP o.2 o.1.args)++rest))) (by
    have hp:=(ad1 (fun o:IOp×Value=>zP o.2 o.1.args) HS.out.2.2).append_right rest
    exact(hp.cons _).trans (List.Perm.swap _ _ _))
   have HB:=Ja x9;clear y0 x9 z2;go_wp2
   go_loopw [15] (fun jv wz=>∃j:Nat,j<=oargs.length/\jv=U j/\Hid (RwMid w p1 o5 pc ((a0,[.bool fi,.bool fr,.bool fa,.bool fb,.bool fn],120)::(y,[U oc,U ors,U oa,U ob,Y on,.slice aa oargs.length ac],76)::((d,[pv,.slice (some ⟨ge,0,none⟩) ops.length ec,U kd,U ta,tv],84)::B2)) (zP (.slice aa oargs.length ac) (mpK (gI T) oargs j)::(tt (.slice (some ⟨ge,0,none⟩) ops.length ec) (L.set k (⟨oc,(if 0<=ors then T-ors else ors),(if fa=true then T-oa else oa),(if fb=true then T-ob else ob),on,oargs⟩,(.slice aa oargs.length ac)))::((L.eraseIdx k).map (fun o=>zP o.2 o.1.args)++rest))) wz)) (fun jv _=>oargs.length-(intOf jv).toNat)
   case atStart=>exact⟨0,Jt _,rfl,HB⟩
   case round=>
    obtain⟨j,hj,rfl,HJ⟩:=hrel;have hb:=(HJ.out.bx _ (.tail _ (.head _))).1;have x5:A wr y 5 (.slice aa oargs.length ac):=zA (i:=5) hb rfl;have xl:=lt_of_block hb;clear hb
    by_cases a1:j<oargs.length
    ·obtain⟨x,hx⟩:∃x,oargs[j]? =some x:=⟨_,Jd a1⟩
     have H3:(j:Int)<(oargs.length:Int):=Zo;obtain⟨ga,af,z0,x0,xf,H9,xo⟩:=HJ.out.getI (.head _) (adZ (gI T) hx);have e9:aa=some ⟨ga,0,none⟩:=by injection z0
     subst e9;have x8:=HL.out.2.2.2.2.2.1 x (Ji hx);have n9:IntKind.i64.wrap (T-x)=T-x:=Om _ (by unfold Sm6 at x8;omega);have HX:=Ja (Jb hx xo);clear hx z0 a1 x8 xo;go_upto_region 29 with fail;refine zt 10 Zk Zk ?_;simp only[Qo,Uc,Qp,Ui]
     repeat (go_big_quiet_step (fail))
     refine wpQuiet_nil ?_;go_wp2;have H1:=(Jh.1 HX.out.1).1;refine⟨⟨j+1,H1,by go_num,Ja ?_⟩,by simp[intOf];omega⟩;have h9:=(HJ.out.below (Below.refl _ _).drew).putI (T-x) (Uq _) HX.out.2 (adZ (gI T) HX.out.1);rw[show T-x=gI T x from rfl,aea (gI T) HX.out.1] at h9;exact h9
    ·obtain rfl:j=oargs.length:=by omega
     have H3:¬(oargs.length:Int)<(oargs.length:Int):=Zo;clear a1;go_wp2;have H2:=(Jh.1 HS.out.1).1;refine⟨⟨k+1,H2,by go_num,Ja ?_⟩,by simp[intOf];omega⟩;have e1:=aea (gO T) HS.out.1;rw[HS.out.2.1] at e1;rw[<-e1];have h9:=HJ.out;rw[aej] at h9;have h8:=h9.few (B1:=[(a0,[.bool fi,.bool fr,.bool fa,.bool fb,.bool fn],120),(y,[U oc,U ors,U oa,U ob,Y on,.slice aa oargs.length ac],76)]) (B2:=((d,[pv,.slice (some ⟨ge,0,none⟩) ops.length ec,U kd,U ta,tv],84)::B2)) rfl
     have e2:tt (.slice (some ⟨ge,0,none⟩) ops.length ec) (L.set k (⟨oc,(if 0<=ors then T-ors else ors),(if fa=true then T-oa else oa),(if fb=true then T-ob else ob),on,oargs⟩,(.slice aa oargs.length ac)))=tt (.slice (some ⟨ge,0,none⟩) ops.length ec) (L.set k (gO T (⟨oc,ors,oa,ob,on,oargs⟩,(.slice aa oargs.length ac)))):=aek (by rw[Nd,Nd]) (ad2 zU (by
      show zU _=[U oc,U (if 0<=ors then T-ors else ors),U (if(zi oc).a then T-oa else oa),U (if(zi oc).b then T-ob else ob),Y on,(.slice aa oargs.length ac)]
      rw[hF]
      rfl))
     rw[e2] at h8;refine h8.perm ?_;have hp:=(ad7 (fun o:IOp×Value=>zP o.2 o.1.args) (Jh.1 HS.out.2.2).1 (gO T (⟨oc,ors,oa,ob,on,oargs⟩,(.slice aa oargs.length ac)))).append_right rest;exact((List.Perm.swap _ _ _).trans (hp.symm.cons _))
  ·obtain rfl:k=ops.length:=by omega
   obtain⟨ga,gc,a6⟩:=zG (b0.out.rows.own _ (.head _));have b2:ov=.slice ga ops.length gc:=by have:=a6;unfold tt at this;simp only[aed] at this;exact this
   subst b2;have a8:¬(ops.length:Int)<(ops.length:Int):=Zo;have o3:=b0.out;rw[aee] at o3;have HE:=Ja o3;clear a1 hb o3 a6;go_wp2;exact HK.out _ _ _ _ _ _ _ _ _ _ _ _ _ _ _ _ _ _ _ _ _ _ _ _ _ _ _ _ _ _ _ _ _ _ _ _ _ _ _ _ _ _ _ _ _ _ _ _ _ _ _ _ _ _ _ _ _ _ _ _ _ _ _ _ _ _ _ _ _ _ _ _ HE.out
theorem aev{ta:Int}{pv ov tv:Value}{B2:List (Nat×List Value×TypeId)}{rest:List Row}(hT:0<=T/\T<=65535)(y5:∀x∈xs,Sm6 x)(C0:xs.length<=1000000)
 (hm:RwMid w p1 o5 pc ((c,[pv,ov,U kd,U ta,tv],84)::B2) (zP pv xs::rest) wx) (u0 u2 u3 u4 u6 u7 u8 u9 B4 y4 y3 y2 y1 x9 x8 x7 x6 x5 x4 x3 x2 x1 w9 w8 w7 w6 w5 w4 w3 w2 w1 w0 v9 v6 v5 v4 v3 v2 v1 v0 u5 u1 t8 t7 t6 t5 t4 t3 t2 s9 B3 B1 B0 A9 A8 A7 A6 A5 A4 A3 A2 A1 A0 z5 z4 z3 z2 z1 s8 s7 s6 s5 s4 s3 s2 s1 s0 r6 r5 r4 r3 r2 r1 r0 q9 q7 q6 q5 q4 q3 q2 q1 q0 p8 p5 p4 p3 o6 o4 o3 o2 o1 o0 n9 n8 n7 n6 n5 n4 n3 n2 n1 n0 m5 m4 m3 m2 m1 m0 l9 l8 l7 l6 l5 l4 l3 l2 l1 l0 k9 k7 k6 k5 k4 k3 k2 k1 k0 j2 j1 j0 i8 i2 i1 i0 h8 h7 h6 h5 h4 h0 g9 g8 g6 g5 g4 g3 g2 g1 g0 f9 f8 f7 f6 f5 f4 f3 f2 f1 f0 e7 e6 e5 e4 e3 e2 e1 e0 d9 d8 d7 d6 d5 d4 d3 d2 d1 d0 c9 c8 c7 c5 c4 c3 c2 c1 c0 b9 b8 b7 b6 b5 b4 b3 b2 b1 b0 a8 a6 a5 a4 a3 a2 a1 a0 y u t o m l k h g d:Value) (K:Act->World->Prop) (Q:Exit->Act->World->Prop)
 (hK:∀(y11 y53 y54 y55 y56 y57 y58 y59 y60 y61 y62 y63 y64 y65 y66 y67 y68 y69 y70:Value) (wy:World),RwMid w p1 o5 pc ((c,[pv,ov,U kd,U ta,tv],84)::B2) (zP pv (rnL T xs)::rest) wy->K ⟨#[u0,U T,u2,u3,u4,.pointer (some ⟨o5,0,none⟩),u6,u7,u8,u9,.pointer (some ⟨c,0,none⟩),y11,y4,y3,y2,y1,x9,x8,x7,x6,x5,x4,x3,x2,x1,w9,w8,w7,w6,w5,w4,w3,w2,w1,w0,v9,v6,v5,v4,v3,v2,v1,v0,u5,u1,t8,t7,t6,t5,t4,t3,t2,s9,y53,y54,y55,y56,y57,y58,y59,y60,y61,y62,y63,y64,y65,y66,y67,y68,y69,y70,s8,s7,s6,s5,s4,s3,s2,s1,s0,r6,r5,r4,r3,r2,r1,r0,q9,q7,q6,q5,q4,q3,q2,q1,q0,p8,p5,p4,p3,o6,o4,o3,o2,o1,o0,n9,n8,n7,n6,n5,n4,n3,n2,n1,n0,m5,m4,m3,m2,m1,m0,l9,l8,l7,l6,l5,l4,l3,l2,l1,l0,k9,k7,k6,k5,k4,k3,k2,k1,k0,j2,j1,j0,i8,i2,i1,i0,h8,h7,h6,h5,h4,h0,g9,g8,g6,g5,g4,g3,g2,g1,g0,f9,f8,f7,f6,f5,f4,f3,f2,f1,f0,e7,e6,e5,e4,e3,e2,e1,e0,d9,d8,d7,d6,d5,d4,d3,d2,d1,d0,c9,c8,c7,c5,c4,c3,c2,c1,c0,b9,b8,b7,b6,b5,b4,b3,b2,b1,b0,a8,a6,a5,a4,a3,a2,a1,a0,y,u,t,o,m,l,k,h,g,d],[]⟩ wy):
 Code.wp Tryz.prog rnCPh (Exit.then K Q) ⟨#[u0,U T,u2,u3,u4,.pointer (some ⟨o5,0,none⟩),u6,u7,u8,u9,.pointer (some ⟨c,0,none⟩),B4,y4,y3,y2,y1,x9,x8,x7,x6,x5,x4,x3,x2,x1,w9,w8,w7,w6,w5,w4,w3,w2,w1,w0,v9,v6,v5,v4,v3,v2,v1,v0,u5,u1,t8,t7,t6,t5,t4,t3,t2,s9,B3,B1,B0,A9,A8,A7,A6,A5,A4,A3,A2,A1,A0,z5,z4,z3,z2,z1,s8,s7,s6,s5,s4,s3,s2,s1,s0,r6,r5,r4,r3,r2,r1,r0,q9,q7,q6,q5,q4,q3,q2,q1,q0,p8,p5,p4,p3,o6,o4,o3,o2,o1,o0,n9,n8,n7,n6,n5,n4,n3,n2,n1,n0,m5,m4,m3,m2,m1,m0,l9,l8,l7,l6,l5,l4,l3,l2,l1,l0,k9,k7,k6,k5,k4,k3,k2,k1,k0,j2,j1,j0,i8,i2,i1,i0,h8,h7,h6,h5,h4,h0,g9,g8,g6,g5,g4,g3,g2,g1,g0,f9,f8,f7,f6,f5,f4,f3,f2,f1,f0,e7,e6,e5,e4,e3,e2,e1,e0,d9,d8,d7,d6,d5,d4,d3,d2,d1,d0,c9,c8,c7,c5,c4,c3,c2,c1,c0,b9,b8,b7,b6,b5,b4,b3,b2,b1,b0,a8,a6,a5,a4,a3,a2,a1,a0,y,u,t,o,m,l,k,h,g,d],[]⟩ wx:=by
 conv=>arg 2;whnf
 obtain⟨aa,ac,B7⟩:=hm.formI (.head _);subst B7;have HM:=Ja hm;have B8:=Ja y5;have HK:=Ja hK;clear hm y5 hK;go_wp2
 go_loopw [11] (fun kv wy=>∃j:Nat,j<=xs.length/\kv=U j/\Hid (RwMid w p1 o5 pc ((c,[.slice aa xs.length ac,ov,U kd,U ta,tv],84)::B2) (zP (.slice aa xs.length ac) (mpK (gI T) xs j)::rest) wy)) (fun kv _=>xs.length-(intOf kv).toNat)
 case atStart=>exact⟨0,Jt _,rfl,HM⟩
 case round=>
  obtain⟨j,hj,rfl,HJ⟩:=hrel;have hb:=(HJ.out.bx _ (.head _)).1;have x0:A wr c 0 (.slice aa xs.length ac):=zA (i:=0) hb rfl;have xl:=lt_of_block hb;clear hb
  by_cases p0:j<xs.length
  ·obtain⟨x,hx⟩:∃x,xs[j]? =some x:=⟨_,Jd p0⟩
   have B6:(j:Int)<(xs.length:Int):=Zo;obtain⟨ga,C2,z0,y0,yf,B9,xo⟩:=HJ.out.getI (.head _) (adZ (gI T) hx);have e9:aa=some ⟨ga,0,none⟩:=by injection z0
   subst e9;have y6:=B8.out x (Ji hx);have C1:IntKind.i64.wrap (T-x)=T-x:=Om _ (by unfold Sm6 at y6;omega);have HX:=Ja (Jb hx xo);clear hx z0 p0 y6 xo;go_upto_region 14 with fail;refine zt 10 Zk Zk ?_;simp only[Qo,Uc,Qp,Ui]
   repeat (go_big_quiet_step (fail))
   refine wpQuiet_nil ?_;go_wp2;have B5:=(Jh.1 HX.out.1).1;refine⟨⟨j+1,B5,by go_num,Ja ?_⟩,by simp[intOf];omega⟩;have h9:=(HJ.out.below (Below.refl _ _).drew).putI (T-x) (Uq _) HX.out.2 (adZ (gI T) HX.out.1);rw[show T-x=gI T x from rfl,aea (gI T) HX.out.1] at h9;exact h9
  ·obtain rfl:j=xs.length:=by omega
   have B6:¬(xs.length:Int)<(xs.length:Int):=Zo;have o9:=HJ.out;rw[aej] at o9;have HE:=Ja o9;clear p0 o9;go_wp2;exact HK.out _ _ _ _ _ _ _ _ _ _ _ _ _ _ _ _ _ _ _ _ HE.out
theorem rnP_tmod{n:Nat}(hi:i<n):((n:Int)-(i:Int)).tmod (n:Int)=(rnP n i:Int):=by
 rw[show(n:Int)-(i:Int)=((n-i:Nat):Int) by omega];rfl
def ad0 (T:Int)(n:Nat)(b:BT):BT:=⟨rnL T b.params,b.pv,b.ops.map (gO T),b.ov,b.kind,rnA T ⟨b.kind,b.a,[]⟩,b.tos.map (gE T n),b.tv⟩
structure RwB (n:Nat) (b:BT):Prop where
 ps:∀x∈b.params,Sm6 x
 pl:b.params.length<=1000000
 os:∀q∈b.ops,Sm6 q.1.res/\Sm6 q.1.a/\Sm6 q.1.b/\(∀x∈q.1.args,Sm6 x)/\q.1.args.length<=1000000
 ol:b.ops.length<=1000000
 ta:Sm6 b.a
 es:∀q∈b.tos,(1<=q.1.block/\q.1.block<(n:Int))/\(∀x∈q.1.args,Sm6 x)/\q.1.args.length<=1000000
 el:b.tos.length<=1000000
theorem rn_block{o n:Nat}{b:BT}{rest:List Row}(hT:0<=T/\T<=65535)(hn:n<=1000000)(c:RwB n b)(B2:gl.length<=1000000)
 (hm:RwMid w p1 o5 pc [(o,zz b,84),(g8,[gv],39)] (zd gv gl::(b.rows++rest)) wx) (u0 u2 u3 u4 u6 u9 B1 B0 A9 A8 A7 A6 A5 A4 d3 d2 d1 d0 c9 c8 c7 c5 c4 c3 c2 c1 c0 b9 b8 b7 b6 b5 b4 b3 b2 b1 b0 a8 a6 a5 a4 a3 a2 a1 a0 x u t A3 A2 A1 A0 z5 z4 z3 z2 z1 z0 y6 y5 y4 y3 y2 y1 y0 x9 x8 x7 x6 x5 x4 x3 x2 x1 x0 w9 w8 w7 w6 w5 w4 w3 w2 w1 w0 v9 v6 v5 v4 v3 v2 v1 v0 u8 u7 u1 t8 t7 t6 t5 t4 t3 t2 s9 s8 s7 s6 s5 s4 s3 s2 s1 s0 r6 r5 r4 r3 r2 r1 r0 q9 q7 q6 q5 q4 q3 q2 q1 q0 p8 p5 p4 p3 p0 o9 o6 o4 o3 o2 o1 o0 n9 n8 n7 n6 n5 n4 n3 n2 n1 n0 m5 m4 m3 m2 m1 m0 l9 l8 l7 l6 l5 l4 l3 l2 l1 l0 k9 k7 k6 k5 k4 k3 k2 k1 k0 j2 j1 j0 i8 i2 i1 i0 h9 h8 h7 h0 g9 g6 g5 g4 g3 g2 g1 g0 f9 f8 f7 f6 f5 f4 f3 f2 f1 f0 e9 e7 e6 e5 e4 e3 e2 e1 e0 d9 d8 d7 k j i h g d:Value) (K:Act->World->Prop) (Q:Exit->Act->World->Prop)
 (hK:∀(gv':Value) (y11 y12 y13 y14 y15 y16 y17 y18 y53 y54 y55 y56 y57 y58 y59 y60 y61 y62 y63 y64 y65 y66 y67 y68 y69 y70 y71 y72 y73 y74 y75 y76 y77 y78 y79 y80 y81 y82 y83 y84 y85 y86 y87 y88 y89 y90 y91 y92 y93 y94 y95 y96 y97 y98 y99 y100 y101 y102 y103 y104 y105 y106 y107 y108 y109 y110 y111 y112 y113 y114 y115 y116 y117 y118 y119 y120 y121 y122 y123 y124 y125 y126 y127 y128 y129 y130 y131 y132 y133 y134 y135 y136 y137 y138 y139 y140 y141 y142 y143 y144 y145 y146 y147 y148 y149 y150 y151 y152 y153 y154 y155 y156 y157 y158 y159 y160 y161 y162 y163 y164 y165 y166 y167 y168 y169 y170 y171 y172 y173 y174 y175 y176 y177 y178 y179 y180 y181 y182 y183 y184 y185 y186 y187 y188 y189 y190 y191 y192 y193 y194 y195 y196 y197 y198 y199 y200 y201 y202 y203 y204 y205 y206 y207 y208 y209 y210 y211 y212 y213 y214 y215 y216 y217 y218 y219 y220 y221:Value) (wy:World),RwMid w p1 o5 pc [(g8,[gv'],39)] (zd gv' (gl++ [ad0 T n b])::((ad0 T n b).rows++rest)) wy->K ⟨#[u0,U T,u2,u3,u4,.pointer (some ⟨o5,0,none⟩),u6,U n,.pointer (some ⟨g8,0,none⟩),u9,.pointer (some ⟨o,0,none⟩),y11,y12,y13,y14,y15,y16,y17,y18,d3,d2,d1,d0,c9,c8,c7,c5,c4,c3,c2,c1,c0,b9,b8,b7,b6,b5,b4,b3,b2,b1,b0,a8,a6,a5,a4,a3,a2,a1,a0,x,u,t,y53,y54,y55,y56,y57,y58,y59,y60,y61,y62,y63,y64,y65,y66,y67,y68,y69,y70,y71,y72,y73,y74,y75,y76,y77,y78,y79,y80,y81,y82,y83,y84,y85,y86,y87,y88,y89,y90,y91,y92,y93,y94,y95,y96,y97,y98,y99,y100,y101,y102,y103,y104,y105,y106,y107,y108,y109,y110,y111,y112,y113,y114,y115,y116,y117,y118,y119,y120,y121,y122,y123,y124,y125,y126,y127,y128,y129,y130,y131,y132,y133,y134,y135,y136,y137,y138,y139,y140,y141,y142,y143,y144,y145,y146,y147,y148,y149,y150,y151,y152,y153,y154,y155,y156,y157,y158,y159,y160,y161,y162,y163,y164,y165,y166,y167,y168,y169,y170,y171,y172,y173,y174,y175,y176,y177,y178,y179,y180,y181,y182,y183,y184,y185,y186,y187,y188,y189,y190,y191,y192,y193,y194,y195,y196,y197,y198,y199,y200,y201,y202,y203,y204,y205,y206,y207,y208,y209,y210,y211,y212,y213,y214,y215,y216,y217,y218,y219,y220,y221,k,j,i,h,g,d],[]⟩ wy):
 Code.wp Tryz.prog rnCP (Exit.then K Q) ⟨#[u0,U T,u2,u3,u4,.pointer (some ⟨o5,0,none⟩),u6,U n,.pointer (some ⟨g8,0,none⟩),u9,.pointer (some ⟨o,0,none⟩),B1,B0,A9,A8,A7,A6,A5,A4,d3,d2,d1,d0,c9,c8,c7,c5,c4,c3,c2,c1,c0,b9,b8,b7,b6,b5,b4,b3,b2,b1,b0,a8,a6,a5,a4,a3,a2,a1,a0,x,u,t,A3,A2,A1,A0,z5,z4,z3,z2,z1,z0,y6,y5,y4,y3,y2,y1,y0,x9,x8,x7,x6,x5,x4,x3,x2,x1,x0,w9,w8,w7,w6,w5,w4,w3,w2,w1,w0,v9,v6,v5,v4,v3,v2,v1,v0,u8,u7,u1,t8,t7,t6,t5,t4,t3,t2,s9,s8,s7,s6,s5,s4,s3,s2,s1,s0,r6,r5,r4,r3,r2,r1,r0,q9,q7,q6,q5,q4,q3,q2,q1,q0,p8,p5,p4,p3,p0,o9,o6,o4,o3,o2,o1,o0,n9,n8,n7,n6,n5,n4,n3,n2,n1,n0,m5,m4,m3,m2,m1,m0,l9,l8,l7,l6,l5,l4,l3,l2,l1,l0,k9,k7,k6,k5,k4,k3,k2,k1,k0,j2,j1,j0,i8,i2,i1,i0,h9,h8,h7,h0,g9,g6,g5,g4,g3,g2,g1,g0,f9,f8,f7,f6,f5,f4,f3,f2,f1,f0,e9,e7,e6,e5,e4,e3,e2,e1,e0,d9,d8,d7,k,j,i,h,g,d],[]⟩ wx:=by
 obtain⟨pa,B3,d5⟩:=hm.formI (v:=b.pv) (xs:=b.params) (.tail _ (.head _));obtain⟨oa,oc,d6⟩:=zG (hm.rows.own (tt b.ov b.ops) (.tail _ (.tail _ (.head _))));obtain⟨ta,tc,d4⟩:=zG (hm.rows.own (xg b.tv b.tos) (.tail _ (.tail _ (.tail _ (.head _)))));have m:b.ov=.slice oa b.ops.length oc:=d6;have l:b.tv=.slice ta b.tos.length tc:=d4;have u5:b.pv.oneCell'=true/\b.ov.oneCell'=true/\b.tv.oneCell'=true:=by rw[d5,m,l];exact⟨rfl,rfl,rfl⟩
 clear d5 d6 m d4 l
 have h1:=hm.perm (RS':=zP b.pv b.params::(tt b.ov b.ops::xg b.tv b.tos::(wI b.ops++ve b.tos)++(zd gv gl::rest))) (by
  classical
  refine Jp.2 fun y=>?_
  simp only[BT.rows,ad0,Nb,Nf]
  omega)
 clear hm
 conv=>arg 2;whnf
 refine wp_seq_k fun K2 hK2=>?_
 refine aev hT c.ps c.pl h1 _ _ _ _ _ _ _ _ _ _ _ _ _ _ _ _ _ _ _ _ _ _ _ _ _ _ _ _ _ _ _ _ _ _ _ _ _ _ _ _ _ _ _ _ _ _ _ _ _ _ _ _ _ _ _ _ _ _ _ _ _ _ _ _ _ _ _ _ _ _ _ _ _ _ _ _ _ _ _ _ _ _ _ _ _ _ _ _ _ _ _ _ _ _ _ _ _ _ _ _ _ _ _ _ _ _ _ _ _ _ _ _ _ _ _ _ _ _ _ _ _ _ _ _ _ _ _ _ _ _ _ _ _ _ _ _ _ _ _ _ _ _ _ _ _ _ _ _ _ _ _ _ _ _ _ _ _ _ _ _ _ _ _ _ _ _ _ _ _ _ _ _ _ _ _ _ _ _ _ _ _ _ _ _ _ _ _ _ _ _ _ _ _ _ _ _ _ _ _ _ _ _ _ _ _ _ _ _ _ _ _ _ _ _ _ _ _ _ _ _ _ _ _ _ _ K2 _ ?_;clear h1;intro y11 y53 y54 y55 y56 y57 y58 y59 y60 y61 y62 y63 y64 y65 y66 y67 y68 y69 y70 wy h2;refine hK2 _ _ ?_;clear hK2
 have h3:=h2.perm (RS':=tt b.ov b.ops::(wI b.ops++(zP b.pv (rnL T b.params)::xg b.tv b.tos::ve b.tos++(zd gv gl::rest)))) (by
  classical
  refine Jp.2 fun y=>?_
  simp only[BT.rows,ad0,Nb,Nf]
  omega)
 clear h2;refine wp_seq_k fun K3 hK3=>?_
 refine rn_ops hT c.os c.ol h3 _ _ _ _ _ _ _ _ _ _ _ _ _ _ _ _ _ _ _ _ _ _ _ _ _ _ _ _ _ _ _ _ _ _ _ _ _ _ _ _ _ _ _ _ _ _ _ _ _ _ _ _ _ _ _ _ _ _ _ _ _ _ _ _ _ _ _ _ _ _ _ _ _ _ _ _ _ _ _ _ _ _ _ _ _ _ _ _ _ _ _ _ _ _ _ _ _ _ _ _ _ _ _ _ _ _ _ _ _ _ _ _ _ _ _ _ _ _ _ _ _ _ _ _ _ _ _ _ _ _ _ _ _ _ _ _ _ _ _ _ _ _ _ _ _ _ _ _ _ _ _ _ _ _ _ _ _ _ _ _ _ _ _ _ _ _ _ _ _ _ _ _ _ _ _ _ _ _ _ _ _ _ _ _ _ _ _ _ _ _ _ _ _ _ _ _ _ _ _ _ _ _ _ _ _ _ _ _ _ _ _ _ _ _ _ _ _ _ _ _ _ _ _ _ _ K3 _ ?_;clear h3;intro y12 y13 y14 y15 y71 y72 y73 y74 y75 y76 y77 y78 y79 y80 y81 y82 y83 y84 y85 y86 y87 y88 y89 y90 y91 y92 y93 y94 y95 y96 y97 y98 y99 y100 y101 y102 y103 y104 y105 y106 y107 y108 y109 y110 y111 y112 y113 y114 y115 y116 y117 y118 y119 y120 y121 y122 y123 y124 y125 y126 y127 y128 y129 y130 y131 y132 y133 y134 y135 y136 y137 wz h4;refine hK3 _ _ ?_;clear hK3
 have h5:=h4.perm (RS':=xg b.tv b.tos::(ve b.tos++(zd gv gl::(zP b.pv (rnL T b.params)::tt b.ov (b.ops.map (gO T))::wI (b.ops.map (gO T))++rest)))) (by
  classical
  refine Jp.2 fun y=>?_
  simp only[BT.rows,ad0,Nb,Nf]
  omega)
 clear h4;refine rn_term hT hn c.es c.el B2 c.ta u5 (nb:=ad0 T n b) rfl h5 _ _ _ _ _ _ _ _ _ _ _ _ _ _ _ _ _ _ _ _ _ _ _ _ _ _ _ _ _ _ _ _ _ _ _ _ _ _ _ _ _ _ _ _ _ _ _ _ _ _ _ _ _ _ _ _ _ _ _ _ _ _ _ _ _ _ _ _ _ _ _ _ _ _ _ _ _ _ _ _ _ _ _ _ _ _ _ _ _ _ _ _ _ _ _ _ _ _ _ _ _ _ _ _ _ _ _ _ _ _ _ _ _ _ _ _ _ _ _ _ _ _ _ _ _ _ _ _ _ _ _ _ _ _ _ _ _ _ _ _ _ _ _ _ _ _ _ _ _ _ _ _ _ _ _ _ _ _ _ _ _ _ _ _ _ _ _ _ _ _ _ _ _ _ _ _ _ _ _ _ _ _ _ _ _ _ _ _ _ _ _ _ _ _ _ _ _ _ _ _ _ _ _ _ _ _ _ _ _ _ _ _ _ _ _ _ _ _ _ _ _ _ _ K Q ?_;clear h5;intro gv' y16 y17 y18 y138 y139 y140 y141 y142 y143 y144 y145 y146 y147 y148 y149 y150 y151 y152 y153 y154 y155 y156 y157 y158 y159 y160 y161 y162 y163 y164 y165 y166 y167 y168 y169 y170 y171 y172 y173 y174 y175 y176 y177 y178 y179 y180 y181 y182 y183 y184 y185 y186 y187 y188 y189 y190 y191 y192 y193 y194 y195 y196 y197 y198 y199 y200 y201 y202 y203 y204 y205 y206 y207 y208 y209 y210 y211 y212 y213 y214 y215 y216 y217 y218 y219 y220 y221 wv h6;refine hK gv' _ _ _ _ _ _ _ _ _ _ _ _ _ _ _ _ _ _ _ _ _ _ _ _ _ _ _ _ _ _ _ _ _ _ _ _ _ _ _ _ _ _ _ _ _ _ _ _ _ _ _ _ _ _ _ _ _ _ _ _ _ _ _ _ _ _ _ _ _ _ _ _ _ _ _ _ _ _ _ _ _ _ _ _ _ _ _ _ _ _ _ _ _ _ _ _ _ _ _ _ _ _ _ _ _ _ _ _ _ _ _ _ _ _ _ _ _ _ _ _ _ _ _ _ _ _ _ _ _ _ _ _ _ _ _ _ _ _ _ _ _ _ _ _ _ _ _ _ _ _ _ _ _ _ _ _ _ _ _ _ _ _ _ _ _ _ _ _ _ _ _ _ _ _ _ _ _ _ ?_
 exact h6.perm (by
  classical
  refine Jp.2 fun y=>?_
  simp only[BT.rows,ad0,Nb,Nf]
  omega)
structure RwK (n:Nat) (b:IBlk):Prop where
 ps:(∀x∈b.params,Sm6 x)/\b.params.length<=1000000
 os:(∀o∈b.ops,Sm6 o.res/\Sm6 o.a/\Sm6 o.b/\(∀x∈o.args,Sm6 x)/\o.args.length<=1000000)/\b.ops.length<=1000000
 ta:Sm6 b.term.a
 es:(∀e∈b.term.to,(1<=e.block/\e.block<(n:Int))/\(∀x∈e.args,Sm6 x)/\e.args.length<=1000000)/\b.term.to.length<=1000000
def RwF (f:List IBlk):Prop:=f.length<=1000000/\∀b∈f,RwK f.length b
theorem RwK.bt {n:Nat}{b:BT}(h:RwK n b.blk):RwB n b:=by
 refine⟨h.ps.1,h.ps.2,fun q hq=>h.os.1 q.1 (Nu.2 ⟨q,hq,rfl⟩),?_,h.ta,fun q hq=>h.es.1 q.1 (Nu.2 ⟨q,hq,rfl⟩),?_⟩
 ·have:=h.os.2;unfold BT.blk at this
  simpa using this
 ·have:=h.es.2;unfold BT.blk at this
  simpa using this
def btN:BT:=⟨[],L,[],L,0,0,[],L⟩
def blS (T:Int)(n:Nat)(bs:List BT)(i:Nat):List BT:=bs.mapIdx fun j b=>if rnP n j<i then ad0 T n b else b
def glS (T:Int)(n:Nat)(bs:List BT)(i:Nat):List BT:=(List.range i).map fun j=>ad0 T n (bs.getD (rnP n j) btN)
theorem blS_len (T:Int)(n:Nat)(bs:List BT)(i:Nat):(blS T n bs i).length=bs.length:=List.length_mapIdx
theorem aew (T:Int)(n:Nat)(bs:List BT)(i:Nat):(glS T n bs i).length=i:=by unfold glS;rw[Nr,Un]
theorem blS_zero (T:Int)(n:Nat)(bs:List BT):blS T n bs 0=bs:=by
 refine Oq fun j=>?_
 unfold blS;rw[List.getElem?_mapIdx]
 cases bs[j]? with
 |none=>rfl
 |some b=>rfl
theorem blS_get{n:Nat}{b:BT}(hi:i<n)(hb:bs[rnP n i]? =some b):(blS T n bs i)[rnP n i]? =some b:=by
 unfold blS;rw[List.getElem?_mapIdx,hb]
 show some (if rnP n (rnP n i)<i then ad0 T n b else b)=some b
 rw[aaV hi,if_neg (Nat.lt_irrefl _)]
theorem blS_set{n:Nat}{b:BT}(hi:i<n)(g:bs.length=n)(hb:bs[rnP n i]? =some b):(blS T n bs i).set (rnP n i) (ad0 T n b)=blS T n bs (i+1):=by
 refine Oq fun j=>?_
 rw[Ov]
 by_cases d:rnP n i=j
 ·subst d;rw[if_pos rfl,if_pos (by rw[blS_len,g];exact abS Zo)];unfold blS;rw[List.getElem?_mapIdx,hb]
  show some (ad0 T n b)=some (if rnP n (rnP n i)<i+1 then ad0 T n b else b)
  rw[aaV hi,if_pos Zo]
 ·rw[if_neg d];unfold blS;rw[List.getElem?_mapIdx,List.getElem?_mapIdx]
  cases l:bs[j]? with
  |none=>rfl
  |some c=>
   have k:j<n:=by rw[<-g];exact(Jh.1 l).1
   show some (if rnP n j<i then ad0 T n c else c)=some (if rnP n j<i+1 then ad0 T n c else c)
   have m:rnP n j≠i:=fun e=>d (by rw[<-e,aaV k])
   by_cases h:rnP n j<i
   ·rw[if_pos h,if_pos Zo]
   ·rw[if_neg h,if_neg Zo]
theorem blS_full{n:Nat}(g:bs.length=n):blS T n bs n=bs.map (ad0 T n):=by
 refine Oq fun j=>?_
 unfold blS;rw[List.getElem?_mapIdx,Jr]
 cases d:bs[j]? with
 |none=>rfl
 |some c=>
  have h:j<n:=by rw[<-g];exact(Jh.1 d).1
  show some (if rnP n j<n then ad0 T n c else c)=some (ad0 T n c)
  rw[if_pos (abS Zo)]
theorem glS_succ{n:Nat}{b:BT}(hb:bs[rnP n i]? =some b):glS T n bs (i+1)=glS T n bs i++ [ad0 T n b]:=by
 unfold glS;rw[List.range_succ,Js]
 show _++ [ad0 T n (bs.getD (rnP n i) btN)]=_
 rw[Jj,hb];rfl
theorem glS_perm{n:Nat}(i:bs.length=n):(glS T n bs n).Perm (bs.map (ad0 T n)):=by
 have h:=(ah4 n).map (fun j=>ad0 T n (bs.getD j btN));rw[List.map_map] at h
 have e:(List.range n).map (fun j=>ad0 T n (bs.getD j btN))=bs.map (ad0 T n):=by
  refine Oq fun j=>?_
  rw[Jr,Jr]
  by_cases g:j<n
  ·rw[Oh g];obtain⟨c,d⟩:∃c,bs[j]? =some c:=⟨_,Jd Zo⟩
   rw[d]
   show some (ad0 T n (bs.getD j btN))=some (ad0 T n c)
   rw[Jj,d];rfl
  ·rw[Of Zt,Of Zo];rfl
 rw[e] at h;exact h
theorem rnBT_blk (T:Int)(n:Nat)(b:BT):(ad0 T n b).blk=rnB T n b.blk:=by
 unfold ad0 rnB BT.blk rnT rnA;simp only[List.map_map];rfl
theorem glS_fn{n:Nat}(d:bs.length=n):(glS T n bs n).map BT.blk=abC T (bs.map BT.blk):=by
 unfold glS abC;rw[List.map_map,Nr,d];refine Up fun j hj=>?_
 have h:j<n:=Ol.1 hj
 show(ad0 T n (bs.getD (rnP n j) btN)).blk=_
 rw[rnBT_blk]
 congr 1
 rw[Jj,Jj,Jr];obtain⟨c,g⟩:∃c,bs[rnP n j]? =some c:=⟨_,Jd (by rw[d];exact abS Zo)⟩
 rw[g];rfl
theorem aeq{P:Program}{s:Code}{R:Exit->Act->World->Prop}{a:Act}(h:s.wp P (Exit.then (fun a w=>R .normal a w) R) a w):s.wp P R a w:=
 wp_mono h fun e a' w' hq=>by cases e<;>exact hq
theorem aiB{s:List Int}{sv:Value}(hs:zY w w.heap.size sv s):G 12 #[sv] w (oC w (uR (s.take 200))):=by
 obtain⟨sa,sc,rfl,a3,a2⟩:=hs.form;obtain⟨k,hk,m⟩:=gj s.length 200;have a0:∀(ts:Array TypeId) (t:TypeId) (W:World),(Builtin.min_ ts t #[.int .i64 (s.length:Int),.int .i64 200]).run Tryz.prog W=.ok (.int .i64 (k:Int)) W:=fun ts t W=>by rw[hk];exact run_min_int2 ..
 have a4:(k:Int)<=(sc:Int):=Zo;have ht:=lw hs 200;rw[<-m] at ht
 have hm:∀W,N w W->G 31 #[.slice sa k sc] W (fun e w'=>oC W (uR (s.take 200)) e w'/\∃V,e=.returned (yH V (uR (s.take 200)))/\∀U,StaysL W.heap.size w' U->ProgIn U U.heap.size V (uR (s.take 200))):=fun W hb=>(jP ((ht.below zO hb).mono zO hb.size)).mono fun e w' ⟨V,he,hp,d⟩=>by
  subst he;exact⟨nE (hp _ (StaysL.refl _ _)) d,V,rfl,hp⟩
 have a1:(uR (s.take 200)).funcs.length<=4:=by rw[qA];exact(sm _).2
 generalize uR (s.take 200)=p at *;have HM:=Ja hm;clear hm hk m ht hs;have u:N w (w.alloc (I #[L,L,.int .i64 0,.int .i64 0,L,L] 29)):=(Below.refl _ _).alloc (Je _) _;have j:=zI (W:=w) (o:=I #[L,L,.int .i64 0,.int .i64 0,L,L] 29) rfl;have h:=Ja (Jb u j);clear u j;go_enter Tryz.func12,Tryz.ntmps12;go_wp2_with (go_at_call 31;go_must (refine(HM.out _ h.out.1).mono ?_;rintro e w1 ⟨⟨fa,fc,aa,ac,da,dc,ba,bc,rfl,hp,g⟩,V,hV,l⟩;have c:=zH g h.out.2 (lt_of_block h.out.2);have c0:=zA (i:=0) c rfl;have c1:=zA (i:=1) c rfl;have c2:=zA (i:=2) c rfl;have c3:=zA (i:=3) c rfl;have c4:=zA (i:=4) c rfl;have c5:=zA (i:=5) c rfl;have cf:∀i,D w1 w.heap.size i:=fun i=>zE c;have cl:=lt_of_block c;have x:=Ja (Jb hp (Jb g (Jb c (Jb hV l))));clear hp g c hV l))
 refine bodyPost_ret (v:=.agg (P p fa fc aa ac da dc ba bc)) ?_ rfl ?_
 ·rw[zM rfl];go_simp
 ·have d:=h.out.1.trans (x.out.2.1.mono h.out.1.size);have y:(w.alloc (I #[L,L,.int .i64 0,.int .i64 0,L,L] 29)).heap.size=w.heap.size+1:=by simp
  have hz:Below w.heap.size w1 (w1.setCells w.heap.size 0 [.slice fa p.funcs.length fc,.slice aa p.args.length ac,.int .i64 p.entry,.int .i64 p.handler,.slice da p.data.length dc,.slice ba p.banks.length bc]):=qu _ _ _ _;have hU:=x.out.2.2.2.2 _ (pJ (vs:=[.slice fa p.funcs.length fc,.slice aa p.args.length ac,.int .i64 p.entry,.int .i64 p.handler,.slice da p.data.length dc,.slice ba p.banks.length bc]) (o:=0) (w:=w1) (r:=w.heap.size) (by rw[y];omega));have hr:=nE hU (d.trans hz);rw[<-x.out.2.2.2.1] at hr;exact hr
end Go.Proofs.YtoahcpkibpomcaaGreat
