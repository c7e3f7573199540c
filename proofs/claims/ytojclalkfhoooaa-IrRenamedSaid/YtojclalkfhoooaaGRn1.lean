/- Part of a proof. -/
import Derived.Test.YtojclalkfhoooaaVf
import Derived.Test.YtojclalkfhoooaaVnA
set_option linter.unusedSectionVars false
set_option linter.all false
namespace Go.Proofs.Ytojclalkfhoooaa
variable {i u:Nat}{v':Int->Nat}{o:IOp}{call':gO}{k:Int}
def rnL (T:Int)(l:List Int):List Int:=l.map fun v=>T-v
def abE (T:Int)(o:IOp):IOp:=
 ⟨o.code,if 0<=o.res then T-o.res else o.res,if(zi o.code).a then T-o.a else o.a,if(zi o.code).b then T-o.b else o.b,o.n,rnL T o.args⟩
def rnE (T:Int)(n:Nat)(e:IEdge):IEdge:=⟨((n:Int)-e.block).tmod n,rnL T e.args⟩
def rnA (T:Int)(t:ITerm):Int:=if t.kind=2∨t.kind=3∨(t.kind=4/\0<=t.a) then T-t.a else t.a
def rnT (T:Int)(n:Nat)(t:ITerm):ITerm:=⟨t.kind,rnA T t,t.to.map (rnE T n)⟩
def rnB (T:Int)(n:Nat)(b:IBlk):IBlk:=⟨rnL T b.params,b.ops.map (abE T),rnT T n b.term⟩
def rnP (n i:Nat):Nat:=(n-i)%n
def abC (T:Int)(f:List IBlk):List IBlk:=(List.range f.length).map fun i=>rnB T f.length (f.getD (rnP f.length i) ⟨[],[],⟨0,0,[]⟩⟩)
def rnF (T:Int)(p:IProg):IProg:= {p with funcs:=p.funcs.map (abC T)}
theorem abS{n:Nat}(h:0<n):rnP n i<n:=Qj _ h
theorem abb (n:Nat):rnP n 0=0:=by unfold rnP;rw[Nat.sub_zero,Nat.mod_self]
theorem abR{n:Nat}(c:0<i)(h:i<n):rnP n i=n-i:=Nat.mod_eq_of_lt Zo
theorem aaV{n:Nat}(h:i<n):rnP n (rnP n i)=i:=by
 rcases Nat.eq_zero_or_pos i with rfl|c
 ·rw[abb,abb]
 ·rw[abR c h,abR Zo Zo];omega
theorem abx (T:Int)(f:List IBlk):(abC T f).length=f.length:=by unfold abC;rw[Nr,Un]
theorem abM{T:Int}{f:List IBlk}(hi:i<f.length){b:IBlk}(hb:f[i]? =some b):(abC T f)[rnP f.length i]? =some (rnB T f.length b):=by
 unfold abC;rw[Jr,Oh (abS Zo),Option.map_some,aaV hi,Jj,hb];rfl
theorem act{T:Int}{f:List IBlk}{b':IBlk}(hb:(abC T f)[i]? =some b'):i<f.length/\∃b,f[rnP f.length i]? =some b/\b'=rnB T f.length b:=by
 have hi:=(Jh.1 hb).1;rw[abx] at hi;have h1:=abS (n:=f.length) (i:=i) Zo;refine⟨hi,_,Jd h1,?_⟩;have h2:=abM (T:=T) h1 (Jd h1);rw[aaV hi,hb] at h2;cases h2;rfl
theorem ab3 {T:Int}{n:Nat}{e:IEdge}(c:1<=e.block)(h:e.block<(n:Int)):(rnE T n e).block=(n:Int)-e.block/\(rnE T n e).block.toNat=rnP n e.block.toNat:=by
 have e1:(rnE T n e).block=(n:Int)-e.block:=by
  show((n:Int)-e.block).tmod n=_
  exact Int.tmod_eq_of_lt Zo Zo
 refine⟨e1,?_⟩;rw[e1,abR Zo Zo];omega
def acR (T:Int)(v v':Int->Nat):Prop:=∀x,v' (T-x)=v x
theorem acR.upd{T:Int}{v:Int->Nat}(h:acR T v v')(x:Int)(r:Nat):acR T (iY v x r) (iY v' (T-x) r):=fun y=>by
 unfold iY
 by_cases e:y=x
 ·rw[if_pos e,if_pos Zo]
 ·rw[if_neg e,if_neg Zo];exact h y
theorem acR.map{T:Int}{v:Int->Nat}(h:acR T v v')(l:List Int):(rnL T l).map v'=l.map v:=by
 unfold rnL;rw[List.map_map];exact Up fun x _=>h x
theorem acR.bind {T:Int}:∀(ps:List Int) (xs:List Nat) {v v':Int->Nat},acR T v v'->acR T (r7 ps xs v) (r7 (rnL T ps) xs v')
 | [],_,_,_,h=>h
 |_::_,[],_,_,h=>h
 |p::ps,a::xs,v,v',h=>acR.bind ps xs (h.upd p a)
theorem acL(E:IEnv){o':IOp}(g:o'.code=o.code)(d:o'.n=o.n)(h2:o.code=2->o'.a=o.a){a a' b b':Nat}(c:(zi o.code).a=true->a'=a)(hb:(zi o.code).b=true->b'=b)(m:Mach)(h1:1<=o.code/\o.code<=25):
 mU E o' a' b' m=mU E o a b m:=by
 unfold mU;rw[g,d]
 by_cases e2:o.code=2
 ·rw[h2 e2];simp[e2]
 rcases rJ o.code with⟨h,e⟩|⟨h,e⟩|⟨h,e⟩|⟨h,e⟩|⟨h,e⟩|⟨h,e⟩|⟨h,e⟩|⟨h,e⟩
 ·rcases h with h|h|h<;>simp[h]<;>omega
 ·rw[c (by rw[e])];rcases h with h|h|h|h<;>simp[h]
 ·rw[c (by rw[e]),hb (by rw[e])];simp only[e2,if_false]
 ·rw[c (by rw[e]),hb (by rw[e])];rcases h with h|h<;>simp[h]
 ·rw[c (by rw[e])];rcases h with h|h<;>simp[h]
 ·rw[c (by rw[e])];simp[h]
 ·omega
 ·omega
structure RnB (T:Int) (f:List IBlk) (b:IBlk):Prop where
 ops:∀o∈b.ops,(1<=o.code/\o.code<=27)/\o.res<=T
 kind:b.term.kind=4->b.term.a=-1∨(0<=b.term.a/\b.term.a<=T)
 edg:∀e∈b.term.to,1<=e.block/\e.block<(f.length:Int)
 okt:bS f b.term
def ResR (T:Int)(r r':Res (Int->Nat)):Prop:=
 match r with
 |.ok v m=>∃v',r'=.ok v' m/\acR T v v'
 |.trap k i m=>r'=.trap k i m
theorem rn_alike (T:Int)(p:IProg)(inn irq:List Nat)(o:IOp)(a b:Nat)(m:Mach):mU ⟨rnF T p,inn,irq⟩ o a b m=mU ⟨p,inn,irq⟩ o a b m:=rfl
theorem step_ren{T:Int}{p:IProg}{inn irq:List Nat}{call:gO}(g:∀f args m,call' f args m=call f args m)(ho:1<=o.code/\o.code<=27){v:Int->Nat}(hv:acR T v v')(m:Mach):
 oV ⟨rnF T p,inn,irq⟩ call' (abE T o) v' m=oV ⟨p,inn,irq⟩ call o v m:=by
 unfold oV;have e1:(abE T o).code=o.code:=rfl;rw[e1]
 by_cases c:o.code=26
 ·rw[if_pos c,if_pos c]
  have:(abE T o).a=o.a:=by
   show(if(zi o.code).a then T-o.a else o.a)=_
   rw[c];rfl
  rw[this,g]
  show call o.a ((rnL T o.args).map v') m=_
  rw[hv.map]
 rw[if_neg c,if_neg c]
 by_cases d:o.code=27
 ·rw[if_pos d,if_pos d];unfold tY;simp only[g];rfl
 rw[if_neg d,if_neg d,rn_alike];refine acL (o:=o) (o':=abE T o) (a:=v o.a) (a':=v' (abE T o).a) (b:=v o.b) (b':=v' (abE T o).b) _ rfl rfl (fun e=>?_) (fun e=>?_) (fun e=>?_) m ⟨by omega,by omega⟩
 ·show(if(zi o.code).a then T-o.a else o.a)=_
  rw[e];rfl
 ·show v' (if(zi o.code).a then T-o.a else o.a)=_
  rw[if_pos e];exact hv _
 ·show v' (if(zi o.code).b then T-o.b else o.b)=_
  rw[if_pos e];exact hv _
theorem adM{T:Int}{p:IProg}{inn irq:List Nat}{call:gO}(c:∀f args m,call' f args m=call f args m):∀(os:List IOp) {v v':Int->Nat} (m:Mach),(∀o∈os,(1<=o.code/\o.code<=27)/\o.res<=T)->acR T v v'->
 ResR T (iq ⟨p,inn,irq⟩ call os v m) (iq ⟨rnF T p,inn,irq⟩ call' (os.map (abE T)) v' m)
 | [],v,v',m,_,hv=>⟨v',rfl,hv⟩
 |o::os,v,v',m,ho,hv=>by
  rw[Ql];unfold iq
  by_cases h0:m.fuel<=0
  ·rw[if_pos h0,if_pos h0];exact rfl
  ·rw[if_neg h0,if_neg h0,step_ren c (ho o (.head _)).1 hv]
   cases oV ⟨p,inn,irq⟩ call o v m.pay with
   |trap k i m1=>exact rfl
   |ok x m1=>
    refine adM c os m1 (fun q hq=>ho q (.tail _ hq)) ?_
    show acR T (setV v o.res x) (setV v' (if 0<=o.res then T-o.res else o.res) x)
    unfold setV;have:=(ho o (.head _)).2
    by_cases h:0<=o.res
    ·rw[if_pos h,if_pos h,if_pos Zo];exact hv.upd _ _
    ·rw[if_neg h,if_neg h,if_neg h];exact hv
theorem ac3 {α β:Type}(g:α->β)(l:List α)(i:Nat)(d:α):(l.map g).getD i (g d)=g (l.getD i d):=by
 rw[Jj,Jj,Jr];cases l[i]?<;>rfl
theorem rnE_zero (T:Int)(n:Nat):rnE T n ⟨0,[]⟩=⟨0,[]⟩:=by
 unfold rnE;rw[Int.sub_zero,Int.tmod_self];rfl
theorem edge_ren (T:Int)(n:Nat)(t:ITerm)(a:Nat):wK (rnT T n t) a=rnE T n (wK t a):=by
 have hg:∀i,(t.to.map (rnE T n)).getD i ⟨0,[]⟩=rnE T n (t.to.getD i ⟨0,[]⟩):=fun i=>by
  have:=ac3 (rnE T n) t.to i ⟨0,[]⟩;rw[rnE_zero] at this;exact this
 unfold wK rnT;simp only[Nr,hg]
 split
 ·rfl
 ·split<;>rfl
theorem acu {T:Int}{f:List IBlk}{at':Int}(c:0<=at')(h:at'<(f.length:Int)):xz (abC T f) ((rnP f.length at'.toNat:Nat):Int)=rnB T f.length (xz f at'):=by
 have hi:at'.toNat<f.length:=Zo;obtain⟨b,hb⟩:∃b,f[at'.toNat]? =some b:=⟨_,Jd hi⟩
 unfold xz;rw[Ni,Jj,abM hi hb,Jj,hb];rfl
theorem acq{T:Int}{p:IProg}{inn irq:List Nat}{call:gO}(t:∀f args m,call' f args m=call f args m){f:List IBlk}(hf:∀b∈f,RnB T f b):∀(n:Nat) (at':Int) (args:List Nat) {v v':Int->Nat} (m:Mach),0<=at'->at'<(f.length:Int)->acR T v v'->
 tJ ⟨rnF T p,inn,irq⟩ call' (abC T f) n ((rnP f.length at'.toNat:Nat):Int) args v' m=tJ ⟨p,inn,irq⟩ call f n at' args v m
 |0,_,_,_,_,_,_,_,_=>rfl
 |n+1,at',args,v,v',m,h0,hl,hv=>by
  have hi:at'.toNat<f.length:=Zo;obtain⟨b,hb⟩:∃b,f[at'.toNat]? =some b:=⟨_,Jd hi⟩
  have w:xz f at'=b:=by unfold xz;rw[Jj,hb];rfl
  have hB:=hf b (Ji hb);unfold tJ;rw[acu h0 hl,w];have h1:=adM (p:=p) (inn:=inn) (irq:=irq) t b.ops m hB.ops (hv.bind b.params args)
  show(match iq _ call' (b.ops.map (abE T)) (r7 (rnL T b.params) args v') m with|.trap k i m'=>_|.ok v2 m2=>_)=_
  generalize iq ⟨p,inn,irq⟩ call b.ops (r7 b.params args v) m=r at *;generalize iq ⟨rnF T p,inn,irq⟩ call' (b.ops.map (abE T)) (r7 (rnL T b.params) args v') m=r' at *
  cases r with
  |trap k i m1=>rw[show r'=_ from h1]
  |ok v2 m2=>
   obtain⟨v2',e,c⟩:=h1;rw[e]
   dsimp only
   by_cases j:m2.fuel<=0
   ·rw[if_pos j,if_pos j]
   rw[if_neg j,if_neg j];have ek:(rnB T f.length b).term.kind=b.term.kind:=rfl;have ea:(rnB T f.length b).term.a=rnA T b.term:=rfl;rw[ek,ea]
   by_cases d:b.term.kind=4
   ·rw[if_pos d,if_pos d];have hk:=hB.kind d
    by_cases hm:b.term.a=-1
    ·have e4:rnA T b.term=-1:=by unfold rnA;rw[if_neg Zo,hm]
     rw[e4,if_pos hm];rfl
    ·have e4:rnA T b.term=T-b.term.a:=by unfold rnA;rw[if_pos Zo]
     rw[e4,if_neg Zo,if_neg hm,c]
   rw[if_neg d,if_neg d]
   by_cases h:b.term.kind=5
   ·rw[if_pos h,if_pos h]
   rw[if_neg h,if_neg h]
   have o:∀(hk:b.term.kind=2∨b.term.kind=3),v2' (rnA T b.term)=v2 b.term.a:=fun hk=>by
    unfold rnA;rw[if_pos Zo,c]
   have l:wK (rnB T f.length b).term (v2' (rnA T b.term))=rnE T f.length (wK b.term (v2 b.term.a)):=by
    show wK (rnT T f.length b.term) _=_
    rw[edge_ren]
    congr 1
    by_cases hk:b.term.kind=2∨b.term.kind=3
    ·rw[o hk]
    ·unfold wK;rw[if_neg Zo,if_neg Zo,if_neg Zo,if_neg Zo]
   rw[l];have hm:=lL hB.okt d h (v2 b.term.a);generalize wK b.term (v2 b.term.a)=ed at *;have g:=hB.edg ed hm;have u:=ab3 (T:=T) g.1 g.2
   have e9:(rnE T f.length ed).block=((rnP f.length ed.block.toNat:Nat):Int):=by
    have:=abR (n:=f.length) (i:=ed.block.toNat) Zo Zo;rw[u.1];omega
   rw[e9]
   show tJ _ call' (abC T f) n _ ((rnL T ed.args).map v2') v2' m2.pay=_
   rw[c.map];exact acq t hf n ed.block _ m2.pay Zo g.2 c
theorem acQ {T:Int}{p:IProg}{inn irq:List Nat}(hp:∀f∈p.funcs,∀b∈f,RnB T f b):∀(r:Nat) (f:Int) (args:List Nat) (m:Mach),xW ⟨rnF T p,inn,irq⟩ r f args m=xW ⟨p,inn,irq⟩ r f args m
 |0,_,_,_=>rfl
 |r+1,f,args,m=>by
  unfold xW;have e1:(rnF T p).funcs.getD f.toNat []=abC T (p.funcs.getD f.toNat []):=ac3 (abC T) p.funcs f.toNat []
  show(if((rnF T p).funcs.getD f.toNat []).isEmpty then _ else tJ _ _ ((rnF T p).funcs.getD f.toNat []) _ _ _ _ _)=_
  rw[e1]
  cases hq:p.funcs[f.toNat]? with
  |none=>
   have e2:p.funcs.getD f.toNat []=[]:=by rw[Jj,hq];rfl
   show _=(if(p.funcs.getD f.toNat []).isEmpty then _ else _)
   rw[e2]
   rfl
  |some bs=>
   have e2:p.funcs.getD f.toNat []=bs:=by rw[Jj,hq];rfl
   show _=(if(p.funcs.getD f.toNat []).isEmpty then _ else tJ _ _ (p.funcs.getD f.toNat []) _ _ _ _ _)
   rw[e2]
   cases bs with
   |nil=>rfl
   |cons b bs=>
    have c:¬(abC T (b::bs)).isEmpty=true:=by
     have:=abx T (b::bs)
     cases h:abC T (b::bs) with
     |nil=>rw[h] at this;cases this
     |cons _ _=>simp
    rw[if_neg c,if_neg Zs];have:=acq (T:=T) (p:=p) (inn:=inn) (irq:=irq) (call:=xW ⟨p,inn,irq⟩ r) (call':=xW ⟨rnF T p,inn,irq⟩ r) (acQ hp r) (f:=b::bs) (hp _ (Ji hq)) (m.fuel.toNat+1) 0 args (v:=fun _=>0) (v':=fun _=>0) m Zo Zs (fun _=>rfl);rw[show(0:Int).toNat=0 from rfl,abb] at this;exact this
theorem run_ren {T:Int}{p:IProg}(inn irq:List Nat)(hp:∀f∈p.funcs,∀b∈f,RnB T f b)(f:Int)(args:List Nat)(ram:ByteArray)(F:Int):bQ ⟨rnF T p,inn,irq⟩ f args ram F=bQ ⟨p,inn,irq⟩ f args ram F:=by
 unfold bQ;rw[acQ hp]
theorem rn_op{T:Int}{p:IProg}(h:opF p o=true)(hr:o.res<=T):opF (rnF T p) (abE T o)=true:=by
 have i:(zi o.code).a=false->(abE T o).a=o.a:=fun e=>by show(if(zi o.code).a then _ else _)=_;rw[e];rfl
 have hb:(zi o.code).b=false->(abE T o).b=o.b:=fun e=>by show(if(zi o.code).b then _ else _)=_;rw[e];rfl
 have hl:(abE T o).args.length=o.args.length:=Nr ..
 have j:decide (0<=(abE T o).res)=decide (0<=o.res):=by
  show decide (0<=(if 0<=o.res then T-o.res else o.res))=_
  by_cases e:0<=o.res
  ·rw[if_pos e,decide_eq_true e,decide_eq_true Zo]
  ·rw[if_neg e]
 have g:-1<=o.res->-1<=(abE T o).res:=fun e=>by
  show -1<=(if 0<=o.res then T-o.res else o.res)
  split<;>omega
 have hf:(rnF T p).funcs.length=p.funcs.length:=Nr ..;unfold opF at h ⊢;have ec:(abE T o).code=o.code:=rfl;have en:(abE T o).n=o.n:=rfl;have e1:(rnF T p).args=p.args:=rfl;have e2:(rnF T p).data=p.data:=rfl;rw[ec,en,e1,e2,hf,hl,j];rw[Jm] at h ⊢;refine⟨h.1,?_⟩;have h2:=h.2
 by_cases c:o.code=26
 ·have hs:zi o.code=⟨true,false,false,false,false⟩:=by rw[c];rfl
  rw[if_pos c] at h2 ⊢;rw[i (by rw[hs]),hb (by rw[hs])];simp only[Jm,decide_eq_true_eq] at h2 ⊢;exact⟨⟨⟨h2.1.1.1,g h2.1.1.2⟩,h2.1.2⟩,h2.2⟩
 rw[if_neg c] at h2 ⊢
 by_cases d:o.code=2
 ·have hs:zi o.code=⟨true,true,false,false,true⟩:=by rw[d];rfl
  rw[if_pos d] at h2 ⊢;rw[i (by rw[hs]),hb (by rw[hs])];exact h2
 rw[if_neg d] at h2 ⊢;simp only[Jm,Bool.or_eq_true,decide_eq_true_eq] at h2 ⊢;obtain⟨⟨⟨⟨⟨⟨k1,k2⟩,k3⟩,k4⟩,k5⟩,k6⟩,k7⟩:=h2;refine⟨⟨⟨⟨⟨⟨k1,g k2⟩,?_⟩,?_⟩,k5⟩,k6⟩,k7⟩
 ·cases e:(zi o.code).a with
  |true=>exact .inl rfl
  |false=>rw[i e];rw[e] at k3;exact k3
 ·cases e:(zi o.code).b with
  |true=>exact .inl rfl
  |false=>rw[hb e];rw[e] at k4;exact k4
theorem acH {T v:Int}{l:List Int}(h:v∈rnL T l):∃x∈l,v=T-x:=by
 obtain⟨x,c,e⟩:=Nu.1 h;exact⟨x,c,e.symm⟩
theorem acS {T:Int}:∀(l:List IOp),(∀o∈l,o.res<=T)->abo (l.map (abE T))=rnL T (abo l)
 | [],_=>rfl
 |o::l,h=>by
  have h1:=h o (.head _);have ih:=acS l fun q hq=>h q (.tail _ hq)
  rw[Ql]
  by_cases e:0<=o.res
  ·have e2:(abE T o).res=T-o.res:=if_pos e;rw[gY (by rw[e2];omega),gY e,ih,e2];rfl
  ·have e2:(abE T o).res=o.res:=if_neg e;rw[abm (by rw[e2];exact e),abm e,ih]
theorem adE {T:Int}{n:Nat}{b:IBlk}(h:∀o∈b.ops,o.res<=T):abu (rnB T n b)=rnL T (abu b):=by
 show rnL T b.params++abo (b.ops.map (abE T))=_
 rw[acS _ h];unfold abu rnL;rw[Js]
theorem acO{f:List IBlk}{b:IBlk}(hb:b∈f)(ho:o∈b.ops)(c:0<=o.res):o.res∈aaI f:=by
 refine Qx.2 ⟨b,hb,Qf _ ?_⟩;exact Nu.2 ⟨o,List.mem_filter.2 ⟨ho,decide_eq_true c⟩,rfl⟩
theorem rnP_perm (n:Nat):((List.range n).map (rnP n)).Perm (List.range n):=by
 cases n with
 |zero=>exact Uq _
 |succ m=>
  have h1:(List.range (m+1)).map (rnP (m+1))=0::((List.range m).map (·+1)).reverse:=by
   refine List.ext_getElem Zs fun i h1 h2=>?_
   rw[List.getElem_map,List.getElem_range]
   cases i with
   |zero=>rw[abb];rfl
   |succ i=>
    rw[List.getElem_cons_succ,List.getElem_reverse,List.getElem_map,List.getElem_range];simp at h1 ⊢;rw[abR Zo Zo];omega
  have h2:List.range (m+1)=0::(List.range m).map (·+1):=List.range_succ_eq_map ..;rw[h1,h2];exact(List.reverse_perm _).cons 0
theorem adK (T:Int)(f:List IBlk):(abC T f).Perm (f.map (rnB T f.length)):=by
 have h:=(rnP_perm f.length).map fun i=>rnB T f.length (f.getD i ⟨[],[],⟨0,0,[]⟩⟩)
 rw[List.map_map] at h
 have e:(List.range f.length).map (fun i=>rnB T f.length (f.getD i ⟨[],[],⟨0,0,[]⟩⟩))=f.map (rnB T f.length):=by
  refine List.ext_getElem Zs fun i h1 h2=>?_
  simp only[List.getElem_map,List.getElem_range];rw[Jj,Jd (by simpa using h2)];rfl
 rw[e] at h;exact h
theorem Walk.mapN {E E':Nat->Nat->Prop}{P P':Nat->Prop}(g:Nat->Nat)(d:∀a b,P a->P b->E a b->E' (g a) (g b))(c:∀a,P a->P' (g a)){a b:Nat}(h:Walk E P a b):Walk E' P' (g a) (g b):=by
 induction h with
 |refl h=>exact .refl (c _ h)
 |snoc h1 h2 h3 ih=>exact .snoc ih (d _ _ h1.last h3 h2) (c _ h3)
section
variable {T:Int} {p:IProg} {f:List IBlk} (h:FnOk p f) (hT:∀v∈aaI f,v<=T) (h0:0<=T)
include h hT h0
theorem FnOk.res {b:IBlk}(hb:b∈f):∀o∈b.ops,o.res<=T:=fun o ho=>by
 rcases Int.lt_or_le o.res 0 with e|e
 ·omega
 ·exact hT _ (acO hb ho e)
theorem fB.mem{v:Int}(hd:fB f v i k):v∈aaI f/\0<=v:=by
 obtain⟨b,hb,hd⟩:=hd;have hm:=Ji hb;rcases hd with⟨_,hv⟩|⟨j,o,_,d,hr,c⟩
 ·have:v∈aaI f:=Qx.2 ⟨b,hm,Jz _ hv⟩;exact⟨this,(h.rng v this).1⟩
 ·subst hr;exact⟨acO hm (Ji d) c,c⟩
theorem FnOk.rnB {b:IBlk}(hb:b∈f):RnB T f b:=by
 refine⟨fun o ho=>⟨(opF_ok (h.ops b hb o ho)).1,h.res hT h0 hb o ho⟩,fun h4=>?_,fun e he=>?_,acV (h.term b hb)⟩
 ·by_cases e:b.term.a=-1
  ·exact .inl e
  ·obtain⟨i,hi⟩:=Ny hb
   have hv:b.term.a∈mE b.term:=by
    unfold mE ut;rw[if_pos (by simp[h4,e])];exact Jz _ (.head _)
   obtain⟨_,_,c,_⟩:=h.tuse i b hi _ hv;have hm:=fB.mem h hT h0 c;exact .inr ⟨hm.2,hT _ hm.1⟩
 ·have:=h.term b hb;unfold wn at this;rw[Jm,Oe] at this;have h2:=this.1 e he;unfold uM at h2;simp only[Jm,decide_eq_true_eq] at h2;exact h2.1
theorem FnOk.succ_ren(c:u<f.length):succ (zy (abC T f)) (rnP f.length u)=(succ (zy f) u).map (rnP f.length):=by
 obtain⟨b,hb⟩:∃b,f[u]? =some b:=⟨_,Jd c⟩
 rw[gK hb,gK (abM c hb)]
 show((b.term.to.map (rnE T f.length)).map fun e=>e.block.toNat)=_
 rw[List.map_map,List.map_map];refine Up fun e he=>?_
 have:=(h.rnB hT h0 (Ji hb)).edg e he;exact(ab3 this.1 this.2).2
theorem FnOk.edge_lt{s:Nat}(j:GE (zy f) u s):u<f.length/\s<f.length:=by
 have c:s∈succ (zy f) u:=j
 have d:u<f.length:=by
  rcases Nat.lt_or_ge u f.length with g|i
  ·exact g
  ·unfold succ at c;rw[Jj,Of (by rw[xu];exact i)] at c;cases c
 obtain⟨b,hb⟩:∃b,f[u]? =some b:=⟨_,Jd d⟩
 rw[gK hb] at c;obtain⟨e,hm,rfl⟩:=Nu.1 c;have:=(h.rnB hT h0 (Ji hb)).edg e hm;exact⟨d,by omega⟩
theorem FnOk.ge_ren{s:Nat}(c:GE (zy f) u s):GE (zy (abC T f)) (rnP f.length u) (rnP f.length s):=by
 show _∈succ _ _
 rw[h.succ_ren hT h0 (h.edge_lt hT h0 c).1];exact Oj c
theorem FnOk.ge_back{s:Nat}(l:GE (zy (abC T f)) u s):GE (zy f) (rnP f.length u) (rnP f.length s):=by
 have c:s∈succ (zy (abC T f)) u:=l
 have g:u<f.length:=by
  rcases Nat.lt_or_ge u f.length with j|k
  ·exact j
  ·unfold succ at c;rw[Jj,Of (by rw[xu,abx];exact k)] at c;cases c
 have e1:=h.succ_ren hT h0 (abS (n:=f.length) (i:=u) Zo);rw[aaV g] at e1;rw[e1] at c;obtain⟨x,d,rfl⟩:=Nu.1 c;rw[aaV (h.edge_lt hT h0 (show GE (zy f) _ x from d)).2];exact d
theorem FnOk.reach_ren(hi:i<f.length):Reach (GE (zy (abC T f))) i:=by
 have h1:=h.reach (rnP f.length i) (abS Zo);have h2:=h1.mapN (P':=fun _=>True) (E':=GE (zy (abC T f))) (rnP f.length) (fun a b _ _ e=>h.ge_ren hT h0 e) (fun _ _=>trivial);rw[aaV hi,abb] at h2;exact h2
theorem FnOk.dom_ren{b:Nat}(hb:b<f.length)(hi:i<f.length)(l:Dom (GE (zy f)) b i):Dom (GE (zy (abC T f))) (rnP f.length b) (rnP f.length i):=fun hw=>by
 have d:0<f.length:=Zo;have m:=(hw.mono (E':=GE (zy (abC T f))) (P':=fun a=>a≠rnP f.length b) (fun _ _ _ _ e=>e) (fun _ e=>e)).2
 have k:∀ {a c:Nat},Walk (GE (zy (abC T f))) (·≠rnP f.length b) a c->a<f.length->c<f.length:=fun w ha=>by
  induction w with
  |refl _=>exact ha
  |@snoc b1 c1 _ e _ ih=>
   have e2:c1∈succ (zy (abC T f)) b1:=e;have e1:=h.succ_ren hT h0 (u:=rnP f.length b1) (abS d);rw[aaV ih] at e1;rw[e1] at e2;obtain⟨x,_,rfl⟩:=Nu.1 e2;exact abS d
 have g:∀ {c:Nat},Walk (GE (zy (abC T f))) (·≠rnP f.length b) 0 c->Walk (GE (zy f)) (·≠b) 0 (rnP f.length c):=fun w=>by
  have j:∀c,c<f.length->c≠rnP f.length b->rnP f.length c≠b:=fun c hc hn2 e=>hn2 (by rw[<-e,aaV hc])
  induction w with
  |refl hp=>rw[abb];exact .refl (fun e=>hp (by rw[<-e,abb]))
  |snoc w1 e hp ih=>exact .snoc ih (h.ge_back hT h0 e) (j _ (k (.snoc w1 e hp) d) hp)
 have:=g hw;rw[aaV hi] at this;exact l this
theorem FnOk.kn_ren{v:Int}(hi:i<f.length)(hk:KnS f v i k):KnS (abC T f) (T-v) (rnP f.length i) k:=by
 obtain⟨b,a,m,l,g⟩:=hk;have hm:=fB.mem h hT h0 m;have hv:=hT _ hm.1;obtain⟨x,d,c⟩:=m;have hb:=(Jh.1 d).1;refine⟨rnP f.length b,a,⟨_,abM hb d,?_⟩,h.dom_ren hT h0 hb hi l,fun e=>g (by rw[<-aaV hb,e,aaV hi])⟩;rcases c with⟨e,hp⟩|⟨j,o,e,t,hr,r⟩
 ·exact .inl ⟨e,Nu.2 ⟨v,hp,rfl⟩⟩
 ·refine .inr ⟨j,abE T o,e,?_,?_,by omega⟩
  ·show(x.ops.map (abE T))[j]? =_
   rw[Jr,t];rfl
  ·show(if 0<=o.res then T-o.res else o.res)=_
   rw[hr,if_pos r]
theorem FnOk.ren (a1:T<=65535):FnOk (rnF T p) (abC T f):=by
 have g:=adK T f
 have y:(aaI (abC T f)).Perm (rnL T (aaI f)):=by
  have h1:(aaI (abC T f)).Perm (aaI (f.map (Go.Proofs.Ytojclalkfhoooaa.rnB T f.length))):=g.flatMap_right _;refine h1.trans (List.Perm.of_eq ?_)
  have:∀(n:Nat) (l:List IBlk),(∀b∈l,∀o∈b.ops,o.res<=T)->aaI (l.map (Go.Proofs.Ytojclalkfhoooaa.rnB T n))=rnL T (aaI l):=fun n l=>by
   induction l with
   |nil=>intro _;rfl
   |cons b l ih=>
    intro hl
    show abu (Go.Proofs.Ytojclalkfhoooaa.rnB T n b)++aaI (l.map (Go.Proofs.Ytojclalkfhoooaa.rnB T n))=rnL T (abu b++aaI l)
    rw[adE (hl b (.head _)),ih (fun x k=>hl x (.tail _ k))];unfold rnL;rw[Js]
  exact this _ f fun b hb=>h.res hT h0 hb
 refine⟨fun e=>?_,fun b' hb o' ho=>?_,fun b' hb=>?_,?_,fun v hv=>?_,fun i hi=>h.reach_ren hT h0 (by rw[abx] at hi;exact hi),fun i b' hb j o' ho v hv=>?_,fun i b' hb v hv=>?_⟩
 ·have:=abx T f;rw[e] at this;exact h.ne (Nz this.symm)
 ·obtain⟨b,d,rfl⟩:=Nu.1 (g.mem_iff.1 hb);obtain⟨o,m,rfl⟩:=Nu.1 (show o'∈b.ops.map (abE T) from ho);exact rn_op (h.ops b d o m) (h.res hT h0 d o m)
 ·obtain⟨b,d,rfl⟩:=Nu.1 (g.mem_iff.1 hb);have hB:=h.rnB hT h0 d;have t:=h.term b d;unfold wn at t ⊢;rw[Jm,Oe] at t ⊢;refine⟨fun e' he=>?_,?_⟩
  ·obtain⟨e,w,rfl⟩:=Nu.1 (show e'∈b.term.to.map (rnE T f.length) from he);have h1:=hB.edg e w;have h2:=ab3 (T:=T) h1.1 h1.2;have h3:=t.1 e w;unfold uM at h3 ⊢;simp only[Jm,decide_eq_true_eq] at h3 ⊢;rw[abx,h2.1];refine⟨by omega,?_⟩;have h4:=abR (n:=f.length) (i:=e.block.toNat) Zo Zo;rw[show(f.length:Int)-e.block=((rnP f.length e.block.toNat:Nat):Int) by omega,acu Zo h1.2]
   show(rnL T e.args).length=(rnL T _).length
   unfold rnL;rw[Nr,Nr];exact h3.2
  ·have h2:=t.2;have e1:(Go.Proofs.Ytojclalkfhoooaa.rnB T f.length b).term.kind=b.term.kind:=rfl;have e2:(Go.Proofs.Ytojclalkfhoooaa.rnB T f.length b).term.to.length=b.term.to.length:=Nr ..
   have e3:b.term.kind=1∨b.term.kind=5->(Go.Proofs.Ytojclalkfhoooaa.rnB T f.length b).term.a=b.term.a:=fun e=>by
    show rnA T b.term=_
    unfold rnA;rw[if_neg Zo]
   rw[e1,e2]
   by_cases k1:b.term.kind=1
   ·rw[e3 (.inl k1)];exact h2
   by_cases k5:b.term.kind=5
   ·rw[e3 (.inr k5)];exact h2
   rw[if_neg k1] at h2 ⊢
   split at h2
   ·rename_i e;rw[if_pos e];exact h2
   rename_i e;rw[if_neg e]
   split at h2
   ·rename_i e;rw[if_pos e];exact h2
   rename_i e;rw[if_neg e]
   split at h2
   ·rename_i e;rw[if_pos e];exact h2
   ·cases h2
 ·rw[y.nodup_iff];unfold rnL;rw[List.nodup_iff_pairwise_ne,List.pairwise_map];exact(List.nodup_iff_pairwise_ne.1 h.nd).imp fun hne e=>hne Zo
 ·obtain⟨x,k,rfl⟩:=acH (y.mem_iff.1 hv);have h1:=h.rng x k;have h2:=hT x k;omega
 ·obtain⟨hi,b,d,rfl⟩:=act hb;have u:(b.ops.map (abE T))[j]? =some o':=ho;rw[Jr,Oz] at u;obtain⟨o,m,rfl⟩:=u
  have r:v∈rnL T (rR o):=by
   unfold rR at hv;have ec:(abE T o).code=o.code:=rfl;have ea:(abE T o).a=if(zi o.code).a then T-o.a else o.a:=rfl
   have eb:(abE T o).b=if(zi o.code).b then T-o.b else o.b:=rfl
   rw[ec,ea,eb] at hv;unfold rnL rR;rw[Js,Js];cases e1:(zi o.code).a<;>cases e2:(zi o.code).b<;>(rw[e1,e2] at hv;exact hv)
  obtain⟨x,k,rfl⟩:=acH r;have:=h.kn_ren hT h0 (abS Zo) (h.use _ b d j o m x k);rw[aaV hi] at this;exact this
 ·obtain⟨hi,b,d,rfl⟩:=act hb;have hB:=h.rnB hT h0 (Ji d)
  have r:v∈rnL T (mE b.term):=by
   have e1:((Go.Proofs.Ytojclalkfhoooaa.rnB T f.length b).term.to.map (·.args)).flatten=rnL T (b.term.to.map (·.args)).flatten:=by
    show((b.term.to.map (rnE T f.length)).map (·.args)).flatten=_
    unfold rnL;rw[List.map_flatten,List.map_map,List.map_map];rfl
   have e2:ut (Go.Proofs.Ytojclalkfhoooaa.rnB T f.length b).term=ut b.term/\(ut b.term=true->(Go.Proofs.Ytojclalkfhoooaa.rnB T f.length b).term.a=T-b.term.a):=by
    have ek:(Go.Proofs.Ytojclalkfhoooaa.rnB T f.length b).term.kind=b.term.kind:=rfl;have ea:(Go.Proofs.Ytojclalkfhoooaa.rnB T f.length b).term.a=rnA T b.term:=rfl;unfold ut;rw[ek,ea];unfold rnA
    by_cases k4:b.term.kind=4
    ·rcases hB.kind k4 with e|e
     ·rw[if_neg Zo,e,k4];exact⟨rfl,fun e=>by simp at e⟩
     ·rw[if_pos Zo,k4];have d1:decide (T-b.term.a≠-1)=true:=decide_eq_true Zo;have d2:decide (b.term.a≠-1)=true:=decide_eq_true Zo;rw[d1,d2];exact⟨rfl,fun _=>rfl⟩
    ·by_cases a0:b.term.kind=2∨b.term.kind=3
     ·rw[if_pos Zo];refine⟨by rcases a0 with e|e<;>simp[e],fun _=>rfl⟩
     ·rw[if_neg Zo];refine⟨rfl,fun e=>?_⟩;simp at e;omega
   unfold mE at hv;rw[e1,e2.1] at hv;unfold mE;have hm:∀(a c:List Int),rnL T (a++c)=rnL T a++rnL T c:=fun a c=>Js ..
   rw[hm]
   cases e3:ut b.term with
   |true=>rw[e3,e2.2 e3] at hv;exact hv
   |false=>rw[e3] at hv;exact hv
  obtain⟨x,k,rfl⟩:=acH r;have:=h.kn_ren hT h0 (abS Zo) (h.tuse _ b d x k);rw[aaV hi] at this
  show KnS _ _ _ (((b.ops.map (abE T)).length:Nat):Int)
  rw[Nr];exact this
end
theorem made_rnB (s:List Int){T:Int}(c:15000<=T):∀f∈(uR s).funcs,∀b∈f,RnB T f b:=fun f hf b hb=>by
 obtain⟨k,hk⟩:=Ny hf;rcases acF s hk with e|⟨h1,_,h2⟩
 ·rw[e] at hb;cases hb
 ·exact h1.rnB (fun v hv=>by have:=h2 v hv;omega) Zo hb
theorem made_ren_valid (s:List Int){T:Int}(m:15000<=T)(j:T<=65535):vC (rnF T (uR s))=0:=by
 have hv:=(rz (fm s)).1;have hl:(rnF T (uR s)).funcs.length=(uR s).funcs.length:=Nr ..
 have l:sR (rnF T (uR s))=0:=by
  rw[<-hv];unfold sR yw;rw[hl];rfl
 unfold vC;rw[l,if_neg Zs,if_pos];rw[Oe];intro k hk;rw[Ol,hl] at hk;have d:(uR s).funcs[k]? =some (uR s).funcs[k]:=Jd hk
 have hg:(rnF T (uR s)).funcs[k]? =some (abC T (uR s).funcs[k]):=by
  show((uR s).funcs.map (abC T))[k]? =_
  rw[Jr,d];rfl
 rcases acF s d with e|⟨h1,⟨b0,g,h⟩,h2⟩
 ·unfold yi;rw[Jj,hg,e];rfl
 ·have i:=(Jh.1 g).1;have c:=abM (T:=T) i g;rw[abb] at c;refine(h1.ren (fun v hv=>by have:=h2 v hv;omega) Zo j).function hg c ?_
  show((rnL T b0.params).length:Int)=_
  unfold rnL;rw[Nr];exact h
end Go.Proofs.Ytojclalkfhoooaa
