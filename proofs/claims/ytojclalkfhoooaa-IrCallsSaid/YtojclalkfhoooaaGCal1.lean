/- Part of a proof. -/
import Derived.Test.YtojclalkfhoooaaVnA
set_option linter.all false
namespace Go.Proofs.Ytojclalkfhoooaa
variable {m:Mach}{E':IEnv}{call':gO}
def FulC (call:gO):Prop:=∀f args m,0<=m.fuel->0<=(call f args m).mch.fuel
def FK (m:Mach)(r:Res Nat):Prop:=r.mch.fuel=m.fuel
theorem fk_ok(x:Nat)(m':Mach)(h:m'.fuel=m.fuel):FK m (.ok x m'):=h
theorem fk_trap(k i:Nat):FK m (.trap k i m):=rfl
theorem fk_if{c:Prop} [Decidable c] {r s:Res Nat}(hr:FK m r)(hs:FK m s):FK m (if c then r else s):=by split<;>assumption
theorem ade (E:IEnv)(o:IOp)(a b:Nat)(m:Mach):(mU E o a b m).mch.fuel=m.fuel:=by
 show FK m _
 unfold mU pR abh sK td im nX uq adS iy
 repeat' (first|exact fk_ok _ _ rfl|exact fk_trap _ _|with_reducible apply fk_if)
theorem ads (E:IEnv){call:gO}(h:FulC call)(m:Mach)(hm:0<=m.fuel):0<=(tY E call m).mch.fuel:=by
 unfold tY
 split
 ·split
  ·have:=h E.p.handler [] {m with polls:=m.polls+1 } hm
   split<;>(rename_i e;rw[e] at this;exact this)
  ·exact hm
 ·exact hm
theorem adN (E:IEnv){call:gO}(h:FulC call)(o:IOp)(v:Int->Nat)(m:Mach)(hm:0<=m.fuel):0<=(oV E call o v m).mch.fuel:=by
 unfold oV
 split
 ·exact h _ _ _ hm
 ·split
  ·exact ads E h m hm
  ·rw[ade];exact hm
theorem ac0 (E:IEnv){call:gO}(h:FulC call):∀(os:List IOp) (v:Int->Nat) (m:Mach),0<=m.fuel->0<=(iq E call os v m).mch.fuel
 | [],v,m,hm=>hm
 |o::os,v,m,hm=>by
  unfold iq
  split
  ·exact hm
  ·have h1:=adN E h o v m.pay (by show 0<=m.fuel-1;omega)
   split
   ·rename_i e;rw[e] at h1;exact ac0 E h os _ _ h1
   ·rename_i e;rw[e] at h1;exact h1
theorem ace (E:IEnv){call:gO}(h:FulC call)(blocks:List IBlk):∀(n:Nat) (at':Int) (args:List Nat) (v:Int->Nat) (m:Mach),0<=m.fuel->0<=(tJ E call blocks n at' args v m).mch.fuel
 |0,at',args,v,m,hm=>hm
 |n+1,at',args,v,m,hm=>by
  unfold tJ;have h1:=ac0 E h (xz blocks at').ops (r7 (xz blocks at').params args v) m hm
  split
  ·rename_i e;rw[e] at h1;exact h1
  ·rename_i v2 m2 e
   rw[e] at h1;have h1:0<=m2.fuel:=h1
   split
   ·exact h1
   ·have h2:0<=m2.pay.fuel:=by show 0<=m2.fuel-1;omega
    split
    ·exact h2
    ·split
     ·exact h2
     ·exact ace E h blocks n _ _ _ _ h2
theorem acw (E:IEnv):∀(r:Nat),FulC (xW E r)
 |0,f,args,m,hm=>hm
 |r+1,f,args,m,hm=>by
  unfold xW
  split
  ·exact hm
  ·exact ace E (acw E r) _ _ _ _ _ _ hm
structure AlikeE (E E':IEnv):Prop where
 inn:E'.inn=E.inn
 irq:E'.irq=E.irq
 data:E'.p.data=E.p.data
 banks:E'.p.banks=E.p.banks
 handler:E'.p.handler=E.p.handler
theorem acD{E:IEnv}(h:AlikeE E E')(o:IOp)(a b:Nat)(m:Mach):mU E' o a b m=mU E o a b m:=by
 unfold mU im nX sJ tS uq;rw[h.inn,h.data,h.banks]
def ab6 (E:IEnv)(call call':gO)(ok:Int->Prop)(m:Mach):Prop:=
 (∀f args m',ok f->m.polls<=m'.polls->call' f args m'=call f args m')/\
 ∀m',m.polls<m'.polls->m'.polls<=E.irq.length->E.p.handler≠-1->call' E.p.handler [] m'=call E.p.handler [] m'
theorem ab6.mono{E:IEnv}{call:gO}{ok:Int->Prop}{m1:Mach}(h:ab6 E call call' ok m)(hm:Grew m m1):ab6 E call call' ok m1:=
 ⟨fun f args m' ho hp=>h.1 f args m' ho (Jn hm.polls hp),fun m' hp hl hh=>h.2 m' (Nat.lt_of_le_of_lt hm.polls hp) hl hh⟩
theorem adA{E:IEnv}(c:AlikeE E E'){call:gO}{ok:Int->Prop}(h:ab6 E call call' ok m):tY E' call' m=tY E call m:=by
 unfold tY;rw[c.irq,c.handler]
 by_cases h1:m.polls<E.irq.length
 ·rw[if_pos h1,if_pos h1]
  by_cases h2:E.irq.getD m.polls 0≠0/\E.p.handler≠-1
  ·rw[if_pos h2,if_pos h2,h.2 {m with polls:=m.polls+1 } (Nat.lt_succ_self _) h1 h2.2]
  ·rw[if_neg h2,if_neg h2]
 ·rw[if_neg h1,if_neg h1]
theorem adi{E:IEnv}(c:AlikeE E E'){call:gO}{ok:Int->Prop}(h:ab6 E call call' ok m)(o:IOp)(ho:o.code=26->ok o.a)(v:Int->Nat):oV E' call' o v m=oV E call o v m:=by
 unfold oV
 by_cases h1:o.code=26
 ·rw[if_pos h1,if_pos h1,h.1 _ _ _ (ho h1) (Je _)]
 ·rw[if_neg h1,if_neg h1,adA c h,acD c]
theorem acX{E:IEnv}(c:AlikeE E E'){call:gO}(hg:fM call){ok:Int->Prop}:∀(os:List IOp) (v:Int->Nat) (m:Mach),ab6 E call call' ok m->(∀o∈os,o.code=26->ok o.a)->iq E' call' os v m=iq E call os v m
 | [],v,m,_,_=>rfl
 |o::os,v,m,h,ho=>by
  unfold iq
  by_cases h0:m.fuel<=0
  ·rw[if_pos h0,if_pos h0]
  ·rw[if_neg h0,if_neg h0,adi c (h.mono (aaJ m)) o (ho o (List.mem_cons_self ..)) v];have h1:=(aaJ m).trans (eG E hg o v m.pay);generalize oV E call o v m.pay=r at *
   cases r with
   |ok x m1=>exact acX c hg os _ m1 (h.mono h1) fun o' ho'=>ho o' (List.mem_cons_of_mem _ ho')
   |trap k i m1=>rfl
theorem acb{E:IEnv}(c:AlikeE E E'){call:gO}(hg:fM call){ok:Int->Prop}(blocks:List IBlk)(hb:∀b∈blocks,∀o∈b.ops,o.code=26->ok o.a):
 ∀(n:Nat) (at':Int) (args:List Nat) (v:Int->Nat) (m:Mach),ab6 E call call' ok m->tJ E' call' blocks n at' args v m=tJ E call blocks n at' args v m
 |0,_,_,_,_,_=>rfl
 |n+1,at',args,v,m,h=>by
  have hops:∀o∈(xz blocks at').ops,o.code=26->ok o.a:=by
   unfold xz;rw[Jj]
   cases hq:blocks[at'.toNat]? with
   |none=>intro o ho;cases ho
   |some b=>exact hb b (Ji hq)
  unfold tJ;rw[acX c hg _ _ m h hops];have h1:=ir E hg (xz blocks at').ops (r7 (xz blocks at').params args v) m;generalize iq E call (xz blocks at').ops (r7 (xz blocks at').params args v) m=r at *
  cases r with
  |trap k i m1=>rfl
  |ok v2 m2=>
   dsimp only
   have h1:Grew m m2:=h1;rw[acb c hg blocks hb n _ _ v2 m2.pay (h.mono (h1.trans (aaJ m2)))]
structure Later (p:IProg) (n:Nat):Prop where
 call:∀(i:Nat) (blocks:List IBlk),p.funcs[i]? =some blocks->∀b∈blocks,∀o∈b.ops,o.code=26->(i:Int)<o.a/\o.a<(n:Int)
 hnd:p.handler=-1∨p.handler=(n:Int)-1
theorem ab7{E:IEnv}(c:AlikeE E E'){n:Nat}(hl:Later E.p n)(hf:∀i,i<n->E'.p.funcs.getD i []=E.p.funcs.getD i []):
 ∀(r r':Nat) (f:Int) (args:List Nat) (m:Mach),0<=f->f<(n:Int)->(n-f.toNat)+(E.irq.length-m.polls)<=r->(n-f.toNat)+(E.irq.length-m.polls)<=r'->xW E' r' f args m=xW E r f args m
 |0,r',f,args,m,h0,hn,hr,_=>by omega
 |r+1,0,f,args,m,h0,hn,_,hr=>by omega
 |r+1,r'+1,f,args,m,h0,hn,hr,hr'=>by
  unfold xW;rw[hf f.toNat Zo]
  by_cases he:(E.p.funcs.getD f.toNat []).isEmpty=true
  ·rw[if_pos he,if_pos he]
  ·rw[if_neg he,if_neg he];refine acb c (gu E r) (ok:=fun g=>f<g/\g<(n:Int)) _ (fun b hb o ho hc=>?_) _ _ _ _ _ ⟨fun g args' m' hg hp=>?_,fun m' hp hq hh=>?_⟩
   ·cases hq:E.p.funcs[f.toNat]? with
    |none=>rw[Jj,hq] at hb;cases hb
    |some bs=>
     rw[Jj,hq] at hb;have:=hl.call _ _ hq b hb o ho hc;omega
   ·exact ab7 c hl hf r r' g args' m' Zo hg.2 Zo Zo
   ·rcases hl.hnd with h|h
    ·exact absurd h hh
    ·rw[h];exact ab7 c hl hf r r' _ [] m' Zo Zo Zo Zo
def adP (k x:Nat):IOp:=⟨1,(k:Int),0,0,x,[]⟩
def abs (a:List Nat)(k:Nat):List IOp:=(List.range k).map fun j=>adP j (a.getD j 0)
def abA (k:Nat):List Int:=(List.range k).map fun j=>((j:Nat):Int)
def abl (f:Int)(a:List Nat):List IOp:=abs a a.length++ [⟨26,(a.length:Int),f,0,0,abA a.length⟩]
def aaR (f:Int)(a:List Nat):IBlk:=⟨[],abl f a,⟨4,(a.length:Int),[]⟩⟩
def aaH (p:IProg)(f:Int)(a:List Nat):IProg:= {p with funcs:=p.funcs++ [[aaR f a]],args:=p.args++ [0]}
theorem acc (a:List Nat)(k:Nat):abs a (k+1)=abs a k++ [adP k (a.getD k 0)]:=by unfold abs;rw[List.range_succ,Js];rfl
theorem abZ (k:Nat):abA (k+1)=abA k++ [(k:Int)]:=by unfold abA;rw[List.range_succ,Js];rfl
theorem aa6 (a:List Nat)(k:Nat):(abs a k).length=k:=by unfold abs;rw[Nr,Un]
theorem acj (k:Nat):(abA k).length=k:=by unfold abA;rw[Nr,Un]
theorem aco (E:IEnv)(call:gO)(o:IOp)(os:List IOp)(v:Int->Nat)(m:Mach):iq E call (o::os) v m=if m.fuel<=0 then .trap 7 0 m else match oV E call o v m.pay with|.ok r m'=>iq E call os (setV v o.res r) m'|.trap k i m'=> .trap k i m':=rfl
theorem callR_sc (E:IEnv)(r:Nat)(f:Int)(args:List Nat)(m:Mach):xW E (r+1) f args m=if(E.p.funcs.getD f.toNat []).isEmpty then .trap 8 (f%65536).toNat m else tJ E (xW E r) (E.p.funcs.getD f.toNat []) (m.fuel.toNat+1) 0 args (fun _=>0) m:=rfl
theorem abD (E:IEnv)(call:gO):∀(l l':List IOp) (v:Int->Nat) (m:Mach),iq E call (l++l') v m=match iq E call l v m with|.ok v' m'=>iq E call l' v' m'|.trap k i m'=> .trap k i m'
 | [],l',v,m=>rfl
 |o::os,l',v,m=>by
  rw[List.cons_append,aco,aco]
  by_cases h:m.fuel<=0
  ·rw[if_pos h,if_pos h]
  ·rw[if_neg h,if_neg h]
   cases oV E call o v m.pay with
   |ok x m1=>exact abD E call os l' _ m1
   |trap k i m1=>rfl
theorem adL (E:IEnv)(call:gO)(a:List Nat)(m:Mach)(v:Int->Nat):∀(k:Nat),(k:Int)<=m.fuel->∃v',iq E call (abs a k) v m=.ok v' {m with fuel:=m.fuel-k }/\∀j,j<k->v' (j:Int)=a.getD j 0
 |0,_=>⟨v,by show Res.ok v m=_;rw[show m.fuel-((0:Nat):Int)=m.fuel by omega],fun j hj=>by omega⟩
 |k+1,h=>by
  obtain⟨v',e,hv⟩:=adL E call a m v k Zo;refine⟨setV v' (k:Int) (a.getD k 0),?_,fun j hj=>?_⟩
  ·rw[acc,abD,e]
   dsimp only
   unfold iq;rw[if_neg (by show ¬m.fuel-(k:Int)<=0;omega)];unfold oV mU adP;simp only[show ¬((1:Int)=26) by decide,show ¬((1:Int)=27) by decide,if_false,if_true]
   show Res.ok (setV v' (k:Int) (a.getD k 0)) {m with fuel:=m.fuel-(k:Int)-1 }=_
   rw[show m.fuel-(k:Int)-1=m.fuel-((k+1:Nat):Int) by omega]
  ·unfold setV iY;rw[if_pos Zo]
   by_cases c:j=k
   ·subst c;rw[if_pos rfl]
   ·rw[if_neg Zo];exact hv j Zo
theorem natL_map {a:List Nat}{v:Int->Nat}(h:∀j,j<a.length->v (j:Int)=a.getD j 0):(abA a.length).map v=a:=by
 unfold abA;rw[List.map_map];refine List.ext_getElem Zs fun i h1 h2=>?_
 rw[List.getElem_map,List.getElem_range]
 show v (i:Int)=_
 rw[h i h2,Jj,Jd h2];rfl
theorem adb (E:IEnv)(f:Int)(a:List Nat):AlikeE E ⟨aaH E.p f a,E.inn,E.irq⟩:=⟨rfl,rfl,rfl,rfl,rfl⟩
theorem wrap_get {p:IProg}{f:Int}{a:List Nat}{i:Nat}(hi:i<p.funcs.length):(aaH p f a).funcs.getD i []=p.funcs.getD i []:=by
 show(p.funcs++ [[aaR f a]]).getD i []=_
 rw[Jj,Jj,Np hi]
theorem adp (p:IProg)(f:Int)(a:List Nat):(aaH p f a).funcs.getD p.funcs.length []=[aaR f a]:=by
 show(p.funcs++ [[aaR f a]]).getD p.funcs.length []=_
 rw[Jj,Nc (Je _),Qy];rfl
theorem wrap_run (E:IEnv)(f:Int)(a:List Nat)(ram:ByteArray)(F:Int)(hl:Later E.p E.p.funcs.length)(hb:E.p.funcs.length+E.irq.length<=99)(t:0<=f)(l:f<(E.p.funcs.length:Int))(o:0<=F)
 (hk:(bQ E f a ram F).kind≠7):bQ ⟨aaH E.p f a,E.inn,E.irq⟩ (E.p.funcs.length:Int) [] ram (F+(a.length:Int)+2)=bQ E f a ram F:=by
 have c:=ab7 (adb E f a) hl (fun i hi=>wrap_get hi) 100 99 f a ⟨v7 ram,F+1,[],0,0⟩ t l (by show _+(E.irq.length-0)<=_;omega) (by show _+(E.irq.length-0)<=_;omega);have hrel:=fT E (d:=1) Zd 100 f a ⟨v7 ram,F,[],0,0⟩;have j:=acw E 100 f a ⟨v7 ram,F,[],0,0⟩ o;rw[up_mk] at hrel;unfold bQ at hk ⊢;generalize v7 ram=rm at *
 have e1:xW ⟨aaH E.p f a,E.inn,E.irq⟩ 100 (E.p.funcs.length:Int) [] ⟨rm,F+(a.length:Int)+2,[],0,0⟩=
  tJ ⟨aaH E.p f a,E.inn,E.irq⟩ (xW ⟨aaH E.p f a,E.inn,E.irq⟩ 99) [aaR f a] ((F+(a.length:Int)+2).toNat+1) 0 [] (fun _=>0) ⟨rm,F+(a.length:Int)+2,[],0,0⟩:=by
  refine(callR_sc _ 99 _ _ _).trans ?_;have e0:(aaH E.p f a).funcs.getD (E.p.funcs.length:Int).toNat []=[aaR f a]:=by rw[Ni,adp]
  simp only[e0];exact if_neg Zs
 rw[e1];clear e1;generalize xW ⟨aaH E.p f a,E.inn,E.irq⟩ 99=C at *;generalize xW E 100 f a ⟨rm,F,[],0,0⟩=r at *;generalize xW E 100 f a ⟨rm,F+1,[],0,0⟩=r' at *;unfold tJ
 show adO (match iq _ _ (abl f a) (fun _=>0) _ with|.trap k i m'=> .trap k i m'|.ok v2 m2=>_)=_
 unfold abl;obtain⟨v',e2,hv⟩:=adL ⟨aaH E.p f a,E.inn,E.irq⟩ C a ⟨rm,F+(a.length:Int)+2,[],0,0⟩ (fun _=>0) a.length (by show(a.length:Int)<=F+(a.length:Int)+2;omega);rw[abD,e2]
 dsimp only
 have e3:iq ⟨aaH E.p f a,E.inn,E.irq⟩ C [⟨26,(a.length:Int),f,0,0,abA a.length⟩] v' ⟨rm,F+(a.length:Int)+2-(a.length:Int),[],0,0⟩=
  match(generalizing:=false) r' with|.ok r m'=> .ok (setV v' (a.length:Int) r) m'|.trap k i m'=> .trap k i m':=by
  have hp:(⟨rm,F+(a.length:Int)+2-(a.length:Int),[],0,0⟩:Mach).pay=⟨rm,F+1,[],0,0⟩:=by
   show(⟨rm,F+(a.length:Int)+2-(a.length:Int)-1,[],0,0⟩:Mach)=_
   rw[show F+(a.length:Int)+2-(a.length:Int)-1=F+1 by omega]
  have h:oV ⟨aaH E.p f a,E.inn,E.irq⟩ C ⟨26,(a.length:Int),f,0,0,abA a.length⟩ v' ⟨rm,F+1,[],0,0⟩=r':=by
   unfold oV;rw[if_pos rfl]
   show C f ((abA a.length).map v') _=_
   rw[natL_map hv,c]
  rw[aco,if_neg (by show ¬F+(a.length:Int)+2-(a.length:Int)<=0;omega),hp,h];cases r'<;>rfl
 rw[e3]
 cases r with
 |ok x m=>
  rw[show r'=_ from hrel]
  dsimp only
  have hm:0<=m.fuel:=j;rw[if_neg (by show ¬m.fuel+1<=0;omega)]
  show adO (if(4:Int)=4 then .ok (if(a.length:Int)=-1 then 0 else setV v' (a.length:Int) x (a.length:Int)) (m.up 1).pay else _)=_
  rw[if_pos rfl,if_neg Zo];unfold setV iY;rw[if_pos Zo,if_pos rfl]
  rfl
 |trap k i m=>
  rcases hrel with⟨g,e⟩|⟨g,_⟩
  ·rw[e];rfl
  ·exact absurd g hk
end Go.Proofs.Ytojclalkfhoooaa
