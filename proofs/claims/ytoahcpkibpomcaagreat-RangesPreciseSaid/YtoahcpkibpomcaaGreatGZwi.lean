/- Part of a proof. -/
import Derived.Test.YtoahcpkibpomcaaGreatGLift8
set_option linter.all false
set_option maxHeartbeats 16000000
set_option maxRecDepth 100000
namespace Go.Proofs.YtoahcpkibpomcaaGreat
open Go.RowKit
variable {d d':wO}{g:List (List Nat)}{i x:Int}{j k:Nat}{o:IOp}{bl c:List IBlk}{w w':World}{K:MKC}{X:Nat->Prop}{M:MS}{vv:Value}{l:List BM}{a0:Rg}
theorem dC{k v:Int}(h:d.1 v=none):yy d g i k v=false:=by unfold yy;rw[h]
theorem ct{p:IProg}(h:opF p o=true):-1<=o.res:=by
 unfold opF at h;rw[Jm] at h;have h2:=h.2
 split at h2
 ·simp only[Jm,decide_eq_true_eq] at h2;omega
 ·split at h2
  ·simp only[Jm,decide_eq_true_eq] at h2;omega
  ·simp only[Jm,decide_eq_true_eq] at h2;omega
theorem aW (l:List Int):∀(n:Int),n<=qK n l/\∀v∈l,cG v<=qK n l:=by
 induction l with
 |nil=>intro n;exact⟨Og _,fun v hv=>by cases hv⟩
 |cons x l ih=>
  intro n;obtain⟨h1,h2⟩:=ih (max n (cG x));have e:qK n (x::l)=qK (max n (cG x)) l:=rfl;rw[e];refine⟨by omega,fun v hv=>?_⟩;rcases Jq.1 hv with rfl|hv
  ·omega
  ·exact h2 v hv
theorem adH (l:List IOp):∀(n:Int),n<=o8 n l/\∀o∈l,cG o.res<=o8 n l:=by
 induction l with
 |nil=>intro n;exact⟨Og _,fun v hv=>by cases hv⟩
 |cons x l ih=>
  intro n;obtain⟨h1,h2⟩:=ih (max n (cG x.res));have e:o8 n (x::l)=o8 (max n (cG x.res)) l:=rfl;rw[e];refine⟨by omega,fun v hv=>?_⟩;rcases Jq.1 hv with rfl|hv
  ·omega
  ·exact h2 v hv
theorem dr (l:List IBlk):∀(n:Int),n<=l.foldl iL n/\∀b∈l,(∀v∈b.params,cG v<=l.foldl iL n)/\∀o∈b.ops,cG o.res<=l.foldl iL n:=by
 induction l with
 |nil=>intro n;exact⟨Og _,fun v hv=>by cases hv⟩
 |cons x l ih=>
  intro n;obtain⟨h1,h2⟩:=ih (iL n x);have p1:=aW x.params n;have p2:=adH x.ops (qK n x.params);have e:iL n x=o8 (qK n x.params) x.ops:=rfl;rw[Qk];refine⟨by omega,fun b hb=>?_⟩;rcases Jq.1 hb with rfl|hb
  ·exact⟨fun v hv=>by have:=p1.2 v hv;omega,fun o ho=>by have:=p2.2 o ho;omega⟩
  ·exact h2 b hb
theorem bO (blocks:List IBlk):0<=aaG blocks:=(dr blocks 0).1
theorem wrap64_in {n:Int}(h1:-9223372036854775808<=n)(h2:n<=9223372036854775807):wrap64 n=n:=by first|exact Om _ Zo|(unfold wrap64;omega)
theorem aaY {v:Int}(h:-1<=v)(h2:v<=65535):cG v=v+1:=by unfold cG;rw[wrap64_in Zo Zo]
def cS (n:Nat)(o:IOp):Prop:=∀x∈rR o,0<=x/\x.toNat<n
theorem cS.a{n:Nat}(h:cS n o)(hs:(zi o.code).a=true):0<=o.a/\o.a.toNat<n:=h _ (by unfold rR;rw[hs];simp)
theorem cS.b{n:Nat}(h:cS n o)(hs:(zi o.code).b=true):0<=o.b/\o.b.toNat<n:=h _ (by unfold rR;rw[hs];simp)
def aq (N:Nat)(b:IBlk):Prop:=(∀x∈b.params,0<=x/\x.toNat<N)/\(∀o∈b.ops,cS N o/\(0<=o.res->o.res.toNat<N))/\∀x∈mE b.term,0<=x/\x.toNat<N
theorem bR{v k:Int}(h:rB d v i k=some d'):(0<=v/\v<=65535)/\∀x,(d'.1 x).isSome=true->(d.1 x).isSome=true∨x=v:=by
 unfold rB at h
 split at h
 ·cases h
 ·rename_i c
  cases h;refine⟨by omega,fun x hx=>?_⟩
  change (lS d.1 v i x).isSome=true at hx
  unfold lS at hx
  by_cases e:x=v
  ·exact .inr e
  ·rw[if_neg e] at hx;exact .inl hx
theorem cL:∀(l:List Int) (d d':wO),vJ i l d=some d'->(∀v∈l,0<=v/\v<=65535)/\∀x,(d'.1 x).isSome=true->(d.1 x).isSome=true∨x∈l
 | [],d,d',h=>by cases h;exact⟨(fun v hv=>by cases hv),fun x hx=> .inl hx⟩
 |v::l,d,d',h=>by
  unfold vJ at h
  cases h1:rB d v i (-1) with
  |none=>rw[h1] at h;cases h
  |some d1=>
   rw[h1,Nw] at h;obtain⟨k1,k2⟩:=bR h1;obtain⟨k3,k4⟩:=cL l d1 d' h;refine⟨fun x hx=>?_,fun x hx=>?_⟩
   ·rcases Jq.1 hx with rfl|hx
    ·exact k1
    ·exact k3 x hx
   ·rcases k4 x hx with h2|h2
    ·rcases k2 x h2 with h3|rfl
     ·exact .inl h3
     ·exact .inr (List.mem_cons_self ..)
    ·exact .inr (List.mem_cons_of_mem _ h2)
theorem bN{p:IProg}:∀(l:List IOp) (k:Int) (d d':wO),sS p i l k d=some d'->(∀o∈l,-1<=o.res/\o.res<=65535)/\∀x,(d'.1 x).isSome=true->(d.1 x).isSome=true∨∃o∈l,o.res=x/\0<=x
 | [],k,d,d',h=>by cases h;exact⟨(fun v hv=>by cases hv),fun x hx=> .inl hx⟩
 |o::l,k,d,d',h=>by
  rw[dG] at h
  cases h1:ug p i k o d with
  |none=>rw[h1] at h;cases h
  |some d1=>
   rw[h1,Nw] at h;obtain⟨k3,k4⟩:=bN l (k+1) d1 d' h
   have hs:(-1<=o.res/\o.res<=65535)/\∀x,(d1.1 x).isSome=true->(d.1 x).isSome=true∨(o.res=x/\0<=x):=by
    unfold ug at h1
    split at h1
    ·rename_i hf
     have:=ct hf
     split at h1
     ·rename_i h0
      obtain⟨k1,k2⟩:=bR h1;refine⟨by omega,fun x hx=>?_⟩;rcases k2 x hx with h3|rfl
      ·exact .inl h3
      ·exact .inr ⟨rfl,h0⟩
     ·cases h1;exact⟨by omega,fun x hx=> .inl hx⟩
    ·cases h1
   refine⟨fun x hx=>?_,fun x hx=>?_⟩
   ·rcases Jq.1 hx with rfl|hx
    ·exact hs.1
    ·exact k3 x hx
   ·rcases k4 x hx with h2|⟨o',h2,h3⟩
    ·rcases hs.2 x h2 with h3|h3
     ·exact .inl h3
     ·exact .inr ⟨o,List.mem_cons_self ..,h3⟩
    ·exact .inr ⟨o',List.mem_cons_of_mem _ h2,h3⟩
def DefdIn (l:List IBlk)(x:Int):Prop:=∃b∈l,x∈b.params∨∃o∈b.ops,o.res=x/\0<=x
def bC (l:List IBlk):Prop:=∀b∈l,(∀v∈b.params,0<=v/\v<=65535)/\∀o∈b.ops,-1<=o.res/\o.res<=65535
theorem cP{p:IProg}:∀(l:List IBlk) (i:Int) (d d':wO),uH p bl l i d=some d'->bC l/\∀x,(d'.1 x).isSome=true->(d.1 x).isSome=true∨DefdIn l x
 | [],i,d,d',h=>by cases h;exact⟨(fun v hv=>by cases hv),fun x hx=> .inl hx⟩
 |b::l,i,d,d',h=>by
  unfold uH at h
  cases h1:pS p bl i b d with
  |none=>rw[h1] at h;cases h
  |some d1=>
   rw[h1,Nw] at h;obtain⟨_,d2,h2,h3⟩:=nF h1;obtain⟨k1,k2⟩:=cL _ _ _ h2;obtain⟨k3,k4⟩:=bN _ _ _ _ h3;obtain⟨k5,k6⟩:=cP l (i+1) d1 d' h;refine⟨fun x hx=>?_,fun x hx=>?_⟩
   ·rcases Jq.1 hx with rfl|hx
    ·exact⟨k1,k3⟩
    ·exact k5 x hx
   ·rcases k6 x hx with j|⟨b',j,c⟩
    ·rcases k4 x j with c|c
     ·rcases k2 x c with g|g
      ·exact .inl g
      ·exact .inr ⟨b,List.mem_cons_self ..,.inl g⟩
     ·exact .inr ⟨b,List.mem_cons_self ..,.inr c⟩
    ·exact .inr ⟨b',List.mem_cons_of_mem _ j,c⟩
theorem ak {N:Int}(l:List Int):∀(n:Int),n<=N->(∀v∈l,cG v<=N)->qK n l<=N:=by
 induction l with
 |nil=>intro n h _;exact h
 |cons x l ih=>
  intro n h hl;have e:qK n (x::l)=qK (max n (cG x)) l:=rfl;rw[e];have:=hl x (List.mem_cons_self ..);exact ih _ Zo (fun v hv=>hl v (List.mem_cons_of_mem _ hv))
theorem aaf {N:Int}(l:List IOp):∀(n:Int),n<=N->(∀o∈l,cG o.res<=N)->o8 n l<=N:=by
 induction l with
 |nil=>intro n h _;exact h
 |cons x l ih=>
  intro n h hl;have e:o8 n (x::l)=o8 (max n (cG x.res)) l:=rfl;rw[e];have:=hl x (List.mem_cons_self ..);exact ih _ Zo (fun v hv=>hl v (List.mem_cons_of_mem _ hv))
theorem count_le {N:Int}(l:List IBlk):∀(n:Int),n<=N->(∀b∈l,(∀v∈b.params,cG v<=N)/\∀o∈b.ops,cG o.res<=N)->l.foldl iL n<=N:=by
 induction l with
 |nil=>intro n h _;exact h
 |cons x l ih=>
  intro n h hl;rw[Qk];have h1:=hl x (List.mem_cons_self ..);exact ih _ (aaf _ _ (ak _ _ h h1.1) h1.2) (fun b hb=>hl b (List.mem_cons_of_mem _ hb))
theorem bD(h:bC bl):0<=aaG bl/\aaG bl<=65536:=by
 refine⟨bO bl,count_le bl 0 Zo fun b hb=>⟨fun v hv=>?_,fun o ho=>?_⟩⟩
 ·have:=(h b hb).1 v hv;rw[aaY Zo Zo];omega
 ·have:=(h b hb).2 o ho;rw[aaY Zo Zo];omega
theorem dY(h:bC bl)(c:DefdIn bl x):0<=x/\x.toNat<(aaG bl).toNat:=by
 obtain⟨b,hb,h1⟩:=c;have hg:=(dr bl 0).2 b hb;have hs:=h b hb;have e:bl.foldl iL 0=aaG bl:=rfl;rw[e] at hg;rcases h1 with h1|⟨o,ho,rfl,h0⟩
 ·have:=hg.1 x h1;have:=hs.1 x h1;rw[aaY Zo Zo] at *;omega
 ·have:=hg.2 o ho;have:=hs.2 o ho;rw[aaY Zo Zo] at *;omega
theorem dd{k v:Int}(h:yy d g i k v=true):(d.1 v).isSome=true:=by
 cases h1:d.1 v with
 |none=>rw[dC h1] at h;cases h
 |some b=>rfl
theorem dw{p:IProg}{n:Nat}(i:p.funcs[n]? =some bl)(h:yi p n=true):(0<=aaG bl/\aaG bl<=65536)/\∀b∈bl,aq (aaG bl).toNat b:=by
 cases bl with
 |nil=>exact⟨⟨by decide,by decide⟩,fun b hb=>by cases hb⟩
 |cons b0 bs=>
  obtain⟨_,d,m,hr⟩:=tF i h;obtain⟨k1,k2⟩:=cP (b0::bs) 0 _ d (show uH p (b0::bs) (b0::bs) 0 _=some d from m)
  have g:∀x,(d.1 x).isSome=true->0<=x/\x.toNat<(aaG (b0::bs)).toNat:=fun x hx=>by
   rcases k2 x hx with h1|h1
   ·cases h1
   ·exact dY k1 h1
  refine⟨bD k1,fun b hb=>?_⟩;obtain⟨j,l⟩:=Ny hb;unfold iM at hr;rw[Jm] at hr;have c:=(cB _ 0).1 hr.2 j b l;unfold aaC at c;rw[Jm] at c;refine⟨fun x hx=>dY k1 ⟨b,hb,.inl hx⟩,fun o ho=>⟨fun x hx=>?_,fun h0=>(dY k1 ⟨b,hb,.inr ⟨o,ho,rfl,h0⟩⟩).2⟩,fun x hx=>?_⟩
  ·obtain⟨k,hk⟩:=Ny ho;exact g x (dd (Oe.1 ((dF _ 0).1 c.1 k o hk) x hx))
  ·exact g x (dd (Oe.1 c.2 x hx))
def accL (bl:List IBlk):List IOp:=(bl.flatMap (·.ops)).filter aeV
def ahZ (o:IOp):Int:=if o.code=18∨o.code=20 then 2 else 1
def aeJ:List IObj->Int->Rg->Int->Int
 | [],_,_,_=>-1
 |o::os,k,a,n=>if o.bank=-1/\o.addr<=a.lo/\(a.hi:Int)+n<=(o.addr:Int)+o.size then k else aeJ os (k+1) a n
def ahf (data:List IObj)(R:List Rg)(o:IOp):Int:=aeJ data 0 (R.getD o.a.toNat ⟨0,0⟩) (ahZ o)
def ag7 (data:List IObj)(R:List Rg)(bl:List IBlk):List Int:=(accL bl).map (ahf data R)
def fnT (p:IProg)(bl:List IBlk):Slv:=ahX p bl (vD (zy bl)) 0 (aeH (aaG bl).toNat (xz bl (0:Nat)).params)
def tr (p:IProg)(bl:List IBlk):List Rg:=e9 (fnT p bl)
structure FnS (p:IProg) (bl:List IBlk):Prop where
 st:StF p bl
 cnt:0<=aaG bl/\aaG bl<=65536
 rng:∀i:Nat,i<bl.length->(∀x∈(xz bl i).params,0<=x/\x.toNat<(aaG bl).toNat)/\∀o∈(xz bl i).ops,cS (aaG bl).toNat o/\(0<=o.res->o.res.toNat<(aaG bl).toNat)
 num:∀i:Nat,i<bl.length->∀o∈(xz bl i).ops,o.n<65536
theorem FnS.sol{p:IProg}(h:FnS p bl):∀i:Nat,i<bl.length->mb (aaG bl).toNat bl (xz bl i):=fun i hi=>by
 refine⟨fun o ho h0=>⟨(h.rng i hi).2 o ho|>.2 h0,?_,fun _=>h.num i hi o ho⟩,fun e he x hx=>?_⟩
 ·have:=(agz (h.st.opok i hi o ho)).1;omega
 ·have c:=h.st.trm i hi;unfold ro at c;rw[Jm,Oe] at c;have d:=c.1 e he;unfold uM at d;simp only[Jm,decide_eq_true_eq] at d;have:=(h.rng e.block.toNat Zo).1;rw[show((e.block.toNat:Nat):Int)=e.block by omega] at this;exact(this x hx).2
theorem FnS.ord{p:IProg}(h:FnS p bl)(i:Nat):i∈vD (zy bl)↔i<bl.length:=by
 obtain⟨ns,d⟩:=adR h.st.vg;rw[d.eq];constructor
 ·intro c;have:=d.lt i c
  rwa [xu] at this
 ·intro c;exact(d.mem i).2 (h.st.all i c)
theorem FnS.pos{p:IProg}(h:FnS p bl):0<bl.length:=by have:=h.st.vg.1;rwa [xu] at this
theorem FnS.end{p:IProg}(h:FnS p bl):EndOk p (aaG bl).toNat bl (vD (zy bl)) (aeH (aaG bl).toNat (xz bl (0:Nat)).params) (fnT p bl):=
 end_ok' (fun i hi=>h.sol i ((h.ord i).1 hi)) (agw fun v hv=>((h.rng 0 h.pos).1 v hv).2)
theorem ae6{p:IProg}(hv:vC p=0)(hs:∀f∈p.funcs,vZ f)(h64:P64 p){n:Nat}(c:p.funcs[n]? =some bl)(h0:bl≠ []):FnS p bl:=by
 obtain⟨_,hf⟩:=rz hv;have d:=Ji c;obtain⟨h,g⟩:=dw c (hf n (Jh.1 c).1);refine⟨stF_of c h0 (hf n (Jh.1 c).1),h,fun i hi=>?_,fun i hi o ho=>?_⟩
 ·obtain⟨b,hb⟩:∃b,bl[i]? =some b:=⟨_,Jd hi⟩
  rw[zf hb];have:=g b (Ji hb);exact⟨this.1,this.2.1⟩
 ·obtain⟨b,hb⟩:∃b,bl[i]? =some b:=⟨_,Jd hi⟩
  rw[zf hb] at ho;exact((h64.funcs bl d b (Ji hb)).ops o ho).1.2.2.2.2
structure Loc (bl:List IBlk) (d:wO):Prop where
 par:∀(i:Nat) b,bl[i]? =some b->∀v∈b.params,d.1 v=some (i:Int)/\d.2 v=some (-1)
 op:∀(i:Nat) b,bl[i]? =some b->∀(k:Nat) o,b.ops[k]? =some o->0<=o.res->d.1 o.res=some (i:Int)/\d.2 o.res=some (k:Int)
def il (d d':wO):Prop:=∀x b,d.1 x=some b->d'.1 x=some b/\d'.2 x=d.2 x
theorem il.refl (d:wO):il d d:=fun x b h=>⟨h,rfl⟩
theorem il.trans {a b c:wO}(h:il a b)(k:il b c):il a c:=fun x y e=>⟨(k x y (h x y e).1).1,((k x y (h x y e).1).2).trans (h x y e).2⟩
theorem afA{v k:Int}(h:rB d v i k=some d'):il d d'/\d'.1 v=some i/\d'.2 v=some k:=by
 unfold rB at h
 split at h
 ·cases h
 ·rename_i g
  cases h;refine⟨fun x b hx=>?_,by show lS d.1 v i v=_;unfold lS;rw[if_pos rfl],by show lS d.2 v k v=_;unfold lS;rw[if_pos rfl]⟩;have c:x≠v:=fun e=>g (.inl (by rw[<-e,hx];rfl))
  show lS d.1 v i x=some b/\lS d.2 v k x=d.2 x
  unfold lS;rw[if_neg c,if_neg c];exact⟨hx,rfl⟩
theorem il.at(h:il d d'){k:Int}(c:d.1 x=some i/\d.2 x=some k):d'.1 x=some i/\d'.2 x=some k:=⟨(h x i c.1).1,((h x i c.1).2).trans c.2⟩
theorem afg:∀(l:List Int) (d d':wO),vJ i l d=some d'->il d d'/\∀v∈l,d'.1 v=some i/\d'.2 v=some (-1)
 | [],d,d',h=>by cases h;exact⟨il.refl _,fun v hv=>by cases hv⟩
 |v::l,d,d',h=>by
  unfold vJ at h
  cases h1:rB d v i (-1) with
  |none=>rw[h1] at h;cases h
  |some d1=>
   rw[h1,Nw] at h;obtain⟨a1,a2⟩:=afA h1;obtain⟨b1,b2⟩:=afg l d1 d' h;refine⟨a1.trans b1,fun u c=>?_⟩;rcases Jq.1 c with rfl|c
   ·exact b1.at a2
   ·exact b2 u c
theorem aeT{p:IProg}:∀(l:List IOp) (k:Int) (d d':wO),sS p i l k d=some d'->il d d'/\∀(j:Nat) o,l[j]? =some o->0<=o.res->d'.1 o.res=some i/\d'.2 o.res=some (k+j)
 | [],k,d,d',h=>by cases h;exact⟨il.refl _,fun j o hj=>by simp at hj⟩
 |o::l,k,d,d',h=>by
  unfold sS at h
  split at h
  ·split at h
   ·rename_i h0
    cases h1:rB d o.res i k with
    |none=>rw[h1] at h;cases h
    |some d1=>
     rw[h1,Nw] at h;obtain⟨a1,a2⟩:=afA h1;obtain⟨b1,b2⟩:=aeT l (k+1) d1 d' h;refine⟨a1.trans b1,fun j x hx h3=>?_⟩
     cases j with
     |zero=>cases hx;rw[show k+((0:Nat):Int)=k by omega];exact b1.at a2
     |succ j=>rw[show k+((j+1:Nat):Int)=k+1+(j:Int) by omega];exact b2 j x (by simpa using hx) h3
   ·rename_i h0
    obtain⟨b1,b2⟩:=aeT l (k+1) d d' h;refine⟨b1,fun j x hx h3=>?_⟩
    cases j with
    |zero=>cases hx;exact absurd h3 h0
    |succ j=>rw[show k+((j+1:Nat):Int)=k+1+(j:Int) by omega];exact b2 j x (by simpa using hx) h3
  ·cases h
theorem ae9{p:IProg}:∀(l:List IBlk) (i:Int) (d d':wO),uH p bl l i d=some d'->il d d'/\∀(j:Nat) b,l[j]? =some b->(∀v∈b.params,d'.1 v=some (i+j)/\d'.2 v=some (-1))/\∀(k:Nat) o,b.ops[k]? =some o->0<=o.res->d'.1 o.res=some (i+j)/\d'.2 o.res=some (k:Int)
 | [],i,d,d',h=>by cases h;exact⟨il.refl _,fun j b hj=>by simp at hj⟩
 |b::l,i,d,d',h=>by
  unfold uH at h
  cases h1:pS p bl i b d with
  |none=>rw[h1] at h;cases h
  |some d1=>
   rw[h1,Nw] at h;obtain⟨c1,c2⟩:=ae9 l (i+1) d1 d' h
   have hb:il d d1/\(∀v∈b.params,d1.1 v=some i/\d1.2 v=some (-1))/\∀(k:Nat) o,b.ops[k]? =some o->0<=o.res->d1.1 o.res=some i/\d1.2 o.res=some (k:Int):=by
    unfold pS at h1
    cases h2:vJ i b.params d with
    |none=>rw[h2] at h1;cases h1
    |some d2=>
     rw[h2,Nw] at h1
     cases h3:sS p i b.ops 0 d2 with
     |none=>rw[h3] at h1;cases h1
     |some d3=>
      rw[h3,Nw] at h1
      split at h1
      ·cases h1;obtain⟨a1,a2⟩:=afg b.params d d2 h2;obtain⟨b1,b2⟩:=aeT b.ops 0 d2 _ h3;exact⟨a1.trans b1,fun v hv=>b1.at (a2 v hv),fun k o ho h0=>by have:=b2 k o ho h0;rwa [Ub] at this⟩
      ·cases h1
   refine⟨hb.1.trans c1,fun j x hx=>?_⟩
   cases j with
   |zero=>
    cases hx;rw[show i+((0:Nat):Int)=i by omega]
    exact⟨fun v hv=>c1.at (hb.2.1 v hv),fun k o ho h0=>c1.at (hb.2.2 k o ho h0)⟩
   |succ j=>rw[show i+((j+1:Nat):Int)=i+1+(j:Int) by omega];exact c2 j x (by simpa using hx)
theorem loc_of{p:IProg}{n:Nat}(c:p.funcs[n]? =some bl)(h0:bl≠ [])(h:yi p n=true):∃d,Loc bl d:=by
 cases bl with
 |nil=>exact absurd rfl h0
 |cons b0 bs=>
  obtain⟨_,d,g,hr⟩:=tF c h;obtain⟨_,h2⟩:=ae9 (b0::bs) 0 _ d (show uH p (b0::bs) (b0::bs) 0 _=some d from g);refine⟨d,fun i b hb v hv=>?_,fun i b hb k o ho h0=>?_⟩
  ·have:=(h2 i b hb).1 v hv
   rwa [Ub] at this
  ·have:=(h2 i b hb).2 k o ho h0
   rwa [Ub] at this
def ah0 (g:List (List Nat)):Prop:=∀u s,u<g.length->s∈succ g u->¬Walk (GE g) (fun _=>True) s u
theorem ahg{L:List Nat}{a b:Nat}(h:Desc g L a b):Walk (GE g) (fun _=>True) a b:=by
 induction h with
 |refl a=>exact .refl trivial
 |step h1 _ _ ih=>exact Walk.trans (.snoc (.refl trivial) h1 trivial) ih
theorem topo{ns:List Nat}(c:OrdF g ns)(i:ah0 g){u s:Nat}(d:u∈0::ns)(hs:s∈succ g u):wh (0::ns) u<wh (0::ns) s:=by
 rcases c.back u s ⟨(c.mem u).1 d,hs⟩ with h|h
 ·exact h
 ·exact absurd (ahg h) (i u s (c.lt u d) hs)
theorem bf {α β:Type}(f:α->List β):∀(l:List α) (pre:List β) (e:β) (post:List β),l.flatMap f=pre++e::post->∃o1 i o2 l1 l2,l=o1++i::o2/\f i=l1++e::l2/\pre=o1.flatMap f++l1/\post=l2++o2.flatMap f
 | [],pre,e,post,h=>by simp at h
 |a::l,pre,e,post,h=>by
  rw[Qa] at h;rcases List.append_eq_append_iff.1 h with⟨m,h1,h2⟩|⟨m,h1,h2⟩
  ·obtain⟨o1,i,o2,l1,l2,e1,e2,e3,e4⟩:=bf f l m e post h2;exact⟨a::o1,i,o2,l1,l2,by rw[e1];rfl,e2,by rw[h1,e3,Qa,Nv],e4⟩
  ·cases m with
   |nil=>
    rw[Ua] at h1;rw[Op] at h2;obtain⟨o1,i,o2,l1,l2,e1,e2,e3,e4⟩:=bf f l [] e post h2.symm
    exact⟨a::o1,i,o2,l1,l2,by rw[e1];rfl,e2,by rw[Qa,Nv,<-e3,Ua,h1],e4⟩
   |cons x m=>
    rw[List.cons_append] at h2;obtain⟨rfl,h3⟩:=List.cons.inj h2;exact⟨[],a,l,pre,m,rfl,h1,rfl,h3⟩
def Cnd (Q k:Int->Prop)(pre:List Evn)(ev:Evn)(post:List Evn):Prop:=
 (∀x∈ev.ins,(k x∨∃e∈pre,e.out=some x)/\∀e∈ev::post,e.out≠some x)/\
 (match ev with|.op o=>0<=o.res->(¬k o.res/\∀e∈pre,e.out≠some o.res)/\¬Q o.res/\∀e∈post,e.out≠some o.res|.arg v _=>Q v)
theorem ahG {Q:Int->Prop}:∀(es:List Evn) (k:Int->Prop),(∀pre ev post,es=pre++ev::post->Cnd Q k pre ev post)->ahE Q k es
 | [],_,_=>trivial
 |ev::es,k,h=>by
  obtain⟨c1,c2⟩:=h [] ev es rfl;refine⟨fun x hx=>⟨?_,(c1 x hx).2⟩,?_,ahG es _ fun pre ev' post e=>?_⟩
  ·rcases(c1 x hx).1 with h1|⟨_,h1,_⟩
   ·exact h1
   ·cases h1
  ·cases ev with
   |op o=>exact fun h0=>⟨(c2 h0).1.1,(c2 h0).2⟩
   |arg v x=>exact c2
  ·obtain⟨d1,d2⟩:=h (ev::pre) ev' post (by rw[e];rfl);refine⟨fun x hx=>⟨?_,(d1 x hx).2⟩,?_⟩
   ·rcases(d1 x hx).1 with h1|⟨e',h1,h2⟩
    ·exact .inl (.inl h1)
    ·rcases Jq.1 h1 with rfl|h1
     ·exact .inl (.inr h2)
     ·exact .inr ⟨e',h1,h2⟩
   ·cases ev' with
    |op o=>
     intro h0;obtain⟨⟨q1,q2⟩,q3⟩:=d2 h0
     exact⟨⟨fun hk=>hk.elim q1 (q2 ev (.head _)),fun e' he=>q2 e' (.tail _ he)⟩,q3⟩
    |arg v x=>exact d2
theorem ahB{p:IProg}(h:StF p bl)(i:j<bl.length){e:Evn}(he:e∈evB bl (xz bl j))(hx:e.out=some x):
 (∃o,e=.op o/\o∈(xz bl j).ops/\o.res=x/\0<=x)∨∃(s:Nat) (b:IBlk),s∈succ (zy bl) j/\1<=s/\bl[s]? =some b/\x∈b.params:=by
 unfold evB at he;rcases Jl.1 he with he|he
 ·obtain⟨o,ho,rfl⟩:=Nu.1 he;have hx:(if 0<=o.res then some o.res else none)=some x:=hx
  by_cases h0:0<=o.res
  ·rw[if_pos h0] at hx;cases hx;exact .inl ⟨o,rfl,ho,rfl,h0⟩
  ·rw[if_neg h0] at hx;cases hx
 ·obtain⟨ed,g,he⟩:=Qx.1 he;obtain⟨⟨v,y⟩,k,rfl⟩:=Nu.1 he;have hx:some v=some x:=hx;cases hx;have c:=h.trm j i;unfold ro at c;rw[Jm,Oe] at c;have d:=c.1 ed g;unfold uM at d;simp only[Jm,decide_eq_true_eq] at d;have hs:ed.block.toNat<bl.length:=Zo;refine .inr ⟨ed.block.toNat,bl[ed.block.toNat],?_,by omega,Jd hs,?_⟩
  ·rw[agi i];exact Nu.2 ⟨ed,g,rfl⟩
  ·have hb:=zf (Jd hs);rw[show((ed.block.toNat:Nat):Int)=ed.block by omega] at hb;rw[<-hb];exact(List.of_mem_zip k).1
theorem arg_in{p:IProg}(i:StF p bl){s:Nat}(k:j<bl.length)(hs:s∈succ (zy bl) j){b:IBlk}(hb:bl[s]? =some b)(o:x∈b.params):∃e∈evB bl (xz bl j),e.out=some x:=by
 rw[agi k] at hs;obtain⟨ed,h,rfl⟩:=Nu.1 hs;have c:=i.trm j k;unfold ro at c;rw[Jm,Oe] at c;have d:=c.1 ed h;unfold uM at d;simp only[Jm,decide_eq_true_eq] at d;have g:=zf hb;rw[show((ed.block.toNat:Nat):Int)=ed.block by omega] at g;rw[g] at d;obtain⟨m,hm⟩:=Ny o;have q:=(Jh.1 hm).1;obtain⟨y,l⟩:∃y,ed.args[m]? =some y:=⟨_,Jd Zo⟩
 refine⟨.arg x y,?_,rfl⟩;unfold evB;refine Qf _ (Qx.2 ⟨ed,h,Nu.2 ⟨(x,y),?_,rfl⟩⟩);rw[g];exact Ji (List.getElem?_zip_eq_some.2 ⟨hm,l⟩)
def yk (K:MKC)(X:Nat->Prop)(w:World)(M':MS)(r:Value)(e:Ending)(w':World):Prop:=e=.returned r/\∃X',wW w' K X' M'/\Stp X w X' w'
theorem MkIn.at{fv:Value}(h:MkIn w K X M fv vv l):wW w K X M:=⟨fv,vv,l,h⟩
theorem MkIn.ticked{fv:Value}(h:MkIn w K X M fv vv l)(c:M.sz+1<=1000000):MkIn (w.setCell ⟨K.pm,1,none⟩ (I ((M.pos:Int)+1))) K X M.tick fv vv l/\Stp X w X (w.setCell ⟨K.pm,1,none⟩ (I ((M.pos:Int)+1))):=
 h.setC 1 _ M.tick vv rfl rfl h.vown h.v64 h.xv (by have:=(zT M).sz;omega) (by have:=h.lft;show 6<=M.left+((M.pos+1:Nat):Int)/\M.left<=6;omega)
theorem rK (x:Int)(n:Nat)(d:0<n)(c:n<=1000000):Int.tmod (wrap64 (Int.tmod x n+n)) n=((x%(n:Int)).toNat:Int):=by
 have h1:=Qv x (show(0:Int)<n by omega)
 have h2:-(n:Int)<Int.tmod x n:=by
  have:=Qu x (show(0:Int)<n by omega);omega
 have e:wrap64 (Int.tmod x n+n)=Int.tmod x n+n:=IntWalk.wrap64_in _ Zo;rw[e];have h3:=Ob x (show(n:Int)≠0 by omega);have g:=Int.emod_lt_of_pos x (show(0:Int)<n by omega)
 have e2:Int.tmod (Int.tmod x n+n) n=x%(n:Int):=by
  rw[Qc Zo,Int.add_emod_right]
  conv=>rhs;rw[<-Int.tmod_add_mul_tdiv x n]
  rw[Int.add_mul_emod_self_left]
 rw[e2];omega
theorem uD{fv:Value}(h:MkIn w K X M fv vv l){n:Nat}(k:0<n)(d:n<=1000000)(i:M.sz+1<=1000000):
 A 55 #[Q K.pm,I n] w fun e w'=>e=.returned (I (tkV K.E M n:Nat))/\MkIn w' K X M.tick fv vv l/\Stp X w X w':=by
 have hs:=h.env.s;have c0:=h.c0;have c1:=h.c1;obtain⟨sa,sc,j,a1,a0⟩:=hs.form;rw[j] at c0 hs;have f1:=h.free 1;have c:=Ja (show ∀n,MkIn ((w.drewN n).setCell ⟨K.pm,1,none⟩ (I ((M.pos:Int)+1))) K X M.tick fv vv l/\Stp X w X ((w.drewN n).setCell ⟨K.pm,1,none⟩ (I ((M.pos:Int)+1))) from fun n=>⟨((h.keep (yL _ w n)).ticked i).1,(Stp.of_below (yL _ w n)).trans ((h.keep (yL _ w n)).ticked i).2⟩)
 have t:(M.pos:Int)+1<=1000000:=by
  have:M.pos<=M.sz:=by unfold MS.sz;omega
  omega
 clear h
 by_cases m:M.pos<K.E.s.length
 ·obtain⟨x,g⟩:∃x,K.E.s[M.pos]? =some x:=⟨_,Jd m⟩
  obtain⟨b,o,rfl,hb,u,h64⟩:=hs.get g;rw[Nk] at u;have y:(M.pos:Int)<(K.E.s.length:Int):=Zo;have hv:tkV K.E M n=(x%(n:Int)).toNat:=by unfold tkV;rw[Jj,g];rfl
  have e1:=rK x n k d;rw[hv];have q:=Ja e1;clear hs g hb e1 hv;go_enter Tryz.func55,Tryz.ntmps55;go_wp2;go_quiet (fail);go_wp2;go_quiet (fail);go_wp2;go_ret;exact⟨zh q.out,(c.out _).1,(c.out _).2⟩
 ·have y:¬(M.pos:Int)<(K.E.s.length:Int):=Zo;have hv:tkV K.E M n=((0:Int)%(n:Int)).toNat:=by unfold tkV;rw[Jj,Of Zo];rfl
  have e1:=rK 0 n k d;rw[hv];have q:=Ja e1;clear hs hv e1;go_enter Tryz.func55,Tryz.ntmps55;go_wp2;go_quiet (fail);go_wp2;go_ret;exact⟨zh Zs,(c.out _).1,(c.out _).2⟩
theorem m8(h:wW w K X M){n:Nat}(g:0<n)(c:n<=1000000)(d:M.sz+1<=1000000):
 A 55 #[Q K.pm,I n] w (yk K X w M.tick (I (tkV K.E M n:Nat))):=by
 obtain⟨fv,vv,l,h⟩:=h;refine(uD h g c d).mono ?_;rintro e w' ⟨rfl,h1,h2⟩;exact⟨rfl,X,h1.at,h2⟩
theorem ot{fv:Value}(h:MkIn w K X M fv vv l)(d:M.sz+1<=1000000):
 A 110 #[Q K.pm] w fun e w'=>e=.returned (I (M.next:Int))/\w'=w.setCell ⟨K.pm,6,none⟩ (I ((M.next+1:Nat):Int)):=by
 have c6:=h.c6;have f6:=h.free 6
 have g:(M.next:Int)+1<=1000000:=by
  have:M.next<=M.sz:=by unfold MS.sz;omega
  omega
 have hb:=h.blk;have c:T (w.setCell ⟨K.pm,6,none⟩ (I ((M.next:Int)+1))) K.pm 6 (I ((M.next:Int)+1)):=World.cell?_setCell_same _ _ _ c6;clear h hb;go_enter Tryz.func110,Tryz.ntmps110;go_wp2;go_ret;refine⟨zh Zo,?_⟩;rfl
theorem nW (c:Int):((zi c).res=true/\uc c=true)∨((zi c).res=false/\c=26/\uc c=true)∨((zi c).res=false/\c≠26/\uc c=false):=by
 unfold uc
 by_cases h:(zi c).res=true
 ·exact .inl ⟨h,by rw[h];rfl⟩
 ·have d:(zi c).res=false:=by simpa using h
  by_cases e:c=26
  ·exact .inr (.inl ⟨d,e,by rw[decide_eq_true e,Bool.or_true]⟩)
  ·exact .inr (.inr ⟨d,e,by rw[d,decide_eq_false e];rfl⟩)
def uN (M:MS)(c:Int):Nat:=if uc c then M.next+1 else M.next
def sB (M:MS)(c:Int):Int:=if uc c then(M.next:Int) else -1
def EmMid (w:World)(K:MKC)(X:Nat->Prop)(M:MS)(fv vv:Value)(l:List BM)(o:IOp)(av:Value)(wx:World):Prop:=
 L wx w.heap.size #[I o.code,I (sB M o.code),I o.a,I o.b,U (o.n:Int),av] 76/\MkIn wx K X {M with next:=uN M o.code } fv vv l/\Stp X w X wx
theorem rD(h:wW w K X M)(ho:qN o){av:Value}(f1:wm w (K.av X) av o.args)(hcur:M.cur<M.f.length)(hz:M.sz+3<=1000000):
 A 132 #[Q K.pm,.agg #[I o.code,I o.res,I o.a,I o.b,U (o.n:Int),av]] w (yk K X w (M.emit o) (I (sB M o.code))):=by
 obtain⟨fv,vv,l,h⟩:=h;obtain⟨aa,ac,f0,_,_⟩:=f1.form;have b6:=lt_of_block h.blk;have H:=Ja (Jb h (Jb ho (Jb f1 (Jb f0 (Jb hcur hz)))));clear h ho f1 hcur hz;subst f0;go_enter Tryz.func132,Tryz.ntmps132;go_upto_region 3 with(go_at_call 52;go_must (refine(aaK o.code _).mono ?_;rintro e w1 ⟨rfl,e8⟩;unfold acg;have bx:L w1 w.heap.size (D o aa ac) 76:=zH e8 (zI rfl) Zs;have y0:=zA (i:=0) bx rfl;have y1:=zA (i:=1) bx rfl;have l7:N w1 w.heap.size 1:=zE bx;have n1:=lt_of_block bx))
 have d0:O w w1:=(((Below.refl w.heap.size w).alloc (Je _) _).trans (e8.mono Zs))
 have a2:O w ((w1.setCell ⟨w.heap.size,1,none⟩ (I (-1))).alloc (G #[.bool (zi o.code).is,.bool (zi o.code).res,.bool (zi o.code).a,.bool (zi o.code).b,.bool (zi o.code).n] 120)):=(d0.setCell (Je _) _).alloc (by have:=d0.size;simp;omega) _;have c9:L ((w1.setCell ⟨w.heap.size,1,none⟩ (I (-1))).alloc (G #[.bool (zi o.code).is,.bool (zi o.code).res,.bool (zi o.code).a,.bool (zi o.code).b,.bool (zi o.code).n] 120)) w.heap.size #[I o.code,I (-1),I o.a,I o.b,U (o.n:Int),.slice aa o.args.length ac] 76:=zB (zD bx _);have e7:L ((w1.setCell ⟨w.heap.size,1,none⟩ (I (-1))).alloc (G #[.bool (zi o.code).is,.bool (zi o.code).res,.bool (zi o.code).a,.bool (zi o.code).b,.bool (zi o.code).n] 120)) w1.heap.size #[.bool (zi o.code).is,.bool (zi o.code).res,.bool (zi o.code).a,.bool (zi o.code).b,.bool (zi o.code).n] 120:=zI Zs;generalize k7:(w1.setCell ⟨w.heap.size,1,none⟩ (I (-1))).alloc (G #[.bool (zi o.code).is,.bool (zi o.code).res,.bool (zi o.code).a,.bool (zi o.code).b,.bool (zi o.code).n] 120)=W2 at *;generalize n4:w1.heap.size=c2 at *;have z0:=zA (i:=0) c9 rfl;have z1:=zA (i:=1) e7 rfl;have H2:=Ja (Jb a2 (Jb c9 e7));clear e8 bx y0 y1 l7 d0 a2 c9 e7 k7
 go_cut [17] (fun v wx=>v=.bool (uc o.code)/\wx=W2)
 case first=>
  rcases nW o.code with⟨e1,e2⟩|⟨e1,e3,e2⟩|⟨e1,e3,e2⟩
  all_goals rw[e1] at z1
  all_goals have E2:=Ja e2
  ·clear e1 e2;go_wp2;go_meet;exact⟨by rw[E2.out],rfl⟩
  ·have i9:(o.code==26)=true:=by rw[e3];rfl
   clear e1 e2 e3;go_wp2;go_meet;exact⟨by rw[E2.out],rfl⟩
  ·have i9:(o.code==26)=false:=by rw[beq_eq_false_iff_ne];exact e3
   clear e1 e2 e3;go_wp2;go_meet;exact⟨by rw[E2.out],rfl⟩
 case rest=>
  obtain⟨rfl,m4⟩:=hcut;subst wc;have a3:=H.out.1.keep H2.out.1;have g3:=ot a3 (by have:=H.out.2.2.2.2.2;omega)
  have b9:uc o.code=false->EmMid w K X M fv vv l o (.slice aa o.args.length ac) W2:=fun e=>by
   have e1:sB M o.code=-1:=by unfold sB;rw[e];rfl
   have e2:uN M o.code=M.next:=by unfold uN;rw[e];rfl
   exact⟨by rw[e1];exact H2.out.2.1,by rw[e2];exact a3,Stp.of_below H2.out.1⟩
  have b8:uc o.code=true->EmMid w K X M fv vv l o (.slice aa o.args.length ac) ((W2.setCell ⟨K.pm,6,none⟩ (I ((M.next+1:Nat):Int))).setCell ⟨w.heap.size,1,none⟩ (I (M.next:Int))):=fun e=>by
   have e1:sB M o.code=(M.next:Int):=by unfold sB;rw[e];rfl
   have e2:uN M o.code=M.next+1:=by unfold uN;rw[e];rfl
   have n0:=lt_of_block H.out.1.blk;have k0:=(a3.blk)
   have g0:=H.out.1.only (W:=((W2.setCell ⟨K.pm,6,none⟩ (I ((M.next+1:Nat):Int))).setCell ⟨w.heap.size,1,none⟩ (I (M.next:Int)))) (M':= {M with next:=M.next+1 }) (by simpa using H2.out.1.size) ⟨H2.out.1.os,H2.out.1.tape,H2.out.1.output⟩ (fun k hk hne=>(Below.heap_setCell _ ⟨w.heap.size,1,none⟩ _ k (by show k≠w.heap.size;omega)).trans ((Below.heap_setCell _ ⟨K.pm,6,none⟩ _ k hne).trans (H2.out.1.block k hk)))
    (zR (zD k0 _) (by show K.pm≠w.heap.size;omega)) rfl rfl (by have:=H.out.2.2.2.2.2;unfold MS.sz at *;simp only at *;omega) H.out.1.lft
   refine⟨?_,by rw[e2];exact g0.1,g0.2⟩;rw[e1];exact zD (zR H2.out.2.1 (by show w.heap.size≠K.pm;omega)) _
  have i0:∀(u:Value),N (W2.setCell ⟨K.pm,6,none⟩ u) w.heap.size 1:=fun u=>(World.frozen?_setCell ..).trans (zE H2.out.2.1)
  have i1:∀(u:Value),T (W2.setCell ⟨K.pm,6,none⟩ u) w.heap.size 1 (I (-1)):=fun u=>zA (i:=1) (zR (a:=⟨K.pm,6,none⟩) (u:=u) H2.out.2.1 (by show w.heap.size≠K.pm;omega)) rfl
  have y:=Ja (Jb g3 (Jb b9 b8));clear g3 b9 b8 a3
  go_upto_if 17 with fail
  go_cut [] (fun wx=>Hid (EmMid w K X M fv vv l o (.slice aa o.args.length ac) wx))
  case first=>
   obtain⟨r,hr⟩:∃r,uc o.code=r:=⟨_,rfl⟩
   have HR:=Ja hr;rw[hr];clear hr;cases r
   ·go_wp2;go_meet;exact Ja (y.out.2.1 HR.out)
   ·go_wp2_with (go_at_call 110;go_must (refine y.out.1.mono ?_;rintro e w3 ⟨rfl,rfl⟩))
    go_meet;exact Ja (y.out.2.2 HR.out)
  case rest=>
   obtain⟨a9,h,hs⟩:=hcut.out;have hcur:=H.out.2.2.2.2.1;obtain⟨b,hb⟩:∃b,M.f[M.cur]? =some b:=⟨_,Jd hcur⟩
   obtain⟨q,hq,rfl,a6⟩:=h.getB (i:=M.cur) hb;obtain⟨g,c,rfl,n6,a8,n2⟩:=h.fblk hq;obtain⟨pa,pc,b5,_,_⟩:=a6.par.form;obtain⟨oa,oc,b1⟩:=zG a6.own;obtain⟨ea,ec,b4,_,_⟩:=a6.tos.form;have c4:=h.c4;have c5:T wc K.pm 5 (I (M.cur:Int)):=h.c5;have a5:=z9 yr h.own rfl hq;have e0:T wc g (M.cur*5) q.pv:=a5 0 _ rfl;have e1:=a5 1 _ rfl;have e2:=a5 2 _ rfl;have e3:=a5 3 _ rfl;have e4:=a5 4 _ rfl;have b6:=lt_of_block h.blk;have k1:l.length=M.f.length:=h.len;have n3:(M.cur:Int)<(l.length:Int):=Zo;have n5:(0:Int)<=(M.cur:Int):=Zo;have k5:=lt_of_block a9;rw[b5] at e0;rw[b1] at e1;rw[b4] at e4;have f2:∀w',O wc w'->T w' K.pm 4 (Y g l.length c)/\T w' K.pm 5 (I (M.cur:Int))/\T w' g (M.cur*5) (.slice pa q.b.params.length pc)/\T w' g (M.cur*5+1) (.slice oa q.ol.length oc)/\T w' g (M.cur*5+2) (I q.b.term.kind)/\T w' g (M.cur*5+3) (I q.b.term.a)/\T w' g (M.cur*5+4) (.slice ea q.b.term.to.length ec):=fun w' hb=>⟨zV hb b6 c4,zV hb b6 c5,zV hb a8 e0,zV hb a8 e1,zV hb a8 e2,zV hb a8 e3,zV hb a8 e4⟩
   have f5:=Ja f2;have HC:=Ja (Jb h (Jb hq (Jb a6 (Jb hb (Jb b5 (Jb b1 (Jb b4 (Jb a9 hs))))))));obtain⟨R,hR⟩:∃R,sB M o.code=R:=⟨_,rfl⟩
   rw[hR] at a9;have HR:=Ja hR;clear f2 c4 c5 e0 e1 e2 e3 e4 h hs hq a6 hb a5 b5 b1 b4 k1 hcut y i0 i1 z0 z1 hR;go_upto_region 5 with fail
   go_region_held3 (fun w'=>T w' K.pm 4 (Y g l.length c)/\T w' K.pm 5 (I (M.cur:Int))/\T w' g (M.cur*5) (.slice pa q.b.params.length pc)/\T w' g (M.cur*5+1) (.slice oa q.ol.length oc)/\T w' g (M.cur*5+2) (I q.b.term.kind)/\T w' g (M.cur*5+3) (I q.b.term.a)/\T w' g (M.cur*5+4) (.slice ea q.b.term.to.length ec))
    ((refine f5.out _ ?_;repeat' (first|exact Below.refl _ _|refine Below.drew ?_|refine Below.alloc ?_ (by simp<;>omega) _|refine Below.setCell ?_ (by simp<;>omega) _)))
    (fail)
   go_upto_region 6 with fail;have a2:O wc ((wc.alloc (G #[.slice pa q.b.params.length pc,.slice oa q.ol.length oc,I q.b.term.kind,I q.b.term.a,.slice ea q.b.term.to.length ec] 84)).drew):=((Below.refl _ _).alloc (Je _) _).drew;have c0:L ((wc.alloc (G #[.slice pa q.b.params.length pc,.slice oa q.ol.length oc,I q.b.term.kind,I q.b.term.a,.slice ea q.b.term.to.length ec] 84)).drew) wc.heap.size #[.slice pa q.b.params.length pc,.slice oa q.ol.length oc,I q.b.term.kind,I q.b.term.a,.slice ea q.b.term.to.length ec] 84:=zI rfl;generalize k9:(wc.alloc (G #[.slice pa q.b.params.length pc,.slice oa q.ol.length oc,I q.b.term.kind,I q.b.term.a,.slice ea q.b.term.to.length ec] 84)).drew=V2 at *;have a3:=HC.out.1.keep a2;have d7:=HC.out.2.2.1.step (Stp.of_below a2) (fun k hk=>a2.block k (HC.out.2.2.1.own.lt k hk).2) (fun _ e=>e);have a0:=zH a2 a9 k5;have l1:=zA (i:=1) c0 rfl;have x0:=zA (i:=0) a0 rfl;have x1:=zA (i:=1) a0 rfl;have x2:=zA (i:=2) a0 rfl;have x3:=zA (i:=3) a0 rfl;have x4:=zA (i:=4) a0 rfl;have x5:=zA (i:=5) a0 rfl;have k2:=lt_of_block c0;have b0:=d7.own;rw[HC.out.2.2.2.2.2.1] at b0;have d5:yM (V2.alloc (G #[I o.code,I R,I o.a,I o.b,U (o.n:Int),.slice aa o.args.length ac] 76)) 6 (Y V2.heap.size 1 1) 1 (zU ({o with res:=R },.slice aa o.args.length ac)):=yM.cells (zI rfl) rfl (by simp[zU,Value.oneCell'])
   have hn:q.ol.length<=1000000:=by
    have h1:=opsN_le HC.out.2.2.2.1;rw[HC.out.2.2.1.ops,Nr] at h1;have h2:=HC.out.1.bnd;unfold MS.sz at h2;simp only at h2;omega
   have HV:=Ja (Jb a2 (Jb c0 (Jb a3 (Jb d7 (Jb a0 (Jb b0 (Jb d5 hn)))))));have l5:K.B<=V2.heap.size:=a3.size;obtain⟨ii,k4,h7,h6,h5⟩:=info_parts Tryz.info_irop;clear a2 c0 a3 d7 a0 b0 d5 k9 a9 f5 hn;go_upto_region 7 with(at_builtin;go_must (refine zK _ rfl (.tmp 33) (.tmp 35) 77 rfl K.B 76 ii (.agg #[I 0,I 0,I 0,I 0,U 0,F]) 6 64 Tryz.underlying77 k4 h7 h6 h5 rfl Zd (.slice oa q.ol.length oc) q.ol.length (q.ol.flatMap zU) rfl (HV.out.2.2.2.2.2.1.alloc _) _ 1 (zU ({o with res:=R },.slice aa o.args.length ac)) rfl HV.out.2.2.2.2.2.2.1 (by have:=HV.out.2.2.2.2.2.2.2;unfold maxLen;omega) (by have:=HV.out.2.2.2.2.2.2.2;omega) Zt ?_;intro v9 w9 j d a4;obtain⟨oa9,oc9,rfl⟩:=zG j;have hz:=zL d (zB HV.out.2.1) (by have:=zC HV.out.2.2.2.2.2.1 HV.out.2.1 (.inr Zd);exact this);have c8:=zA (i:=1) hz rfl;have j2:N w9 wc.heap.size 1:=zE hz))
   have f9:q.ov.ownBlock≠some g:=fun e=>by
    rcases zo HC.out.2.2.1.own HC.out.1.own Zd with h1|h1
    ·rw[h1] at e;cases e
    ·exact h1 (by rw[e];rfl)
   have d6:(Value.slice oa q.ol.length oc).ownBlock=q.ov.ownBlock:=by rw[HC.out.2.2.2.2.2.1]
   rw[d6] at d a4
   have c1:(w9.setCell ⟨wc.heap.size,1,none⟩ (.slice oa9 (q.ol.length+1) oc9)).ownsRow K.B 84 5 (Y g l.length c) l.length (l.flatMap xG):=yD HC.out.1.own (fun k e=>by
    have e2:k=g:=by simp[Value.ownBlock] at e;exact e.symm
    subst e2
    exact(Below.heap_setCell w9 ⟨wc.heap.size,1,none⟩ _ k (by show k≠wc.heap.size;omega)).trans ((d.block k (by have:=HV.out.1.size;simp;omega) (fun e3=>f9 e3.symm)).trans ((Below.heap_alloc V2 _ k (by have:=HV.out.1.size;omega)).trans (HV.out.1.block k a8))))
   have e6:q.ov.ownBlock≠some K.pm:=fun e=>zC HC.out.2.2.1.own HC.out.1.blk (.inr Zd) e
   have b7:=zR (a:=⟨wc.heap.size,1,none⟩) (u:=.slice oa9 (q.ol.length+1) oc9) (zL d (zB HV.out.2.2.1.blk) e6) (by show K.pm≠wc.heap.size;omega);have a7:=zD hz (i:=1) (.slice oa9 (q.ol.length+1) oc9);have c4:T (w9.setCell ⟨wc.heap.size,1,none⟩ (.slice oa9 (q.ol.length+1) oc9)) K.pm 4 (Y g l.length c):=zA (i:=4) b7 rfl;have c5:T (w9.setCell ⟨wc.heap.size,1,none⟩ (.slice oa9 (q.ol.length+1) oc9)) K.pm 5 (I (M.cur:Int)):=zA (i:=5) b7 rfl;have l0:=zA (i:=0) a7 rfl;have l1:=zA (i:=1) a7 rfl;have l2:=zA (i:=2) a7 rfl;have l3:=zA (i:=3) a7 rfl;have l4:=zA (i:=4) a7 rfl;have HG:=Ja (Jb j (Jb d (Jb a4 (Jb hz c1))));have d2:=zq Zd yr c1 rfl HC.out.2.1;generalize f3:w9.setCell ⟨wc.heap.size,1,none⟩ (.slice oa9 (q.ol.length+1) oc9)=W10 at c4 c5 l0 l1 l2 l3 l4 d2 ⊢;have f4:=Ja f3;have g4:=Ja d2;clear j d a4 hz c8 j2 b7 a7 f9 d6 c1 e6 d2 f3 x0 x1 x2 x3 x4 x5 l5;refine zt 11 Zk Zk ?_;simp only[Qo,Uc,Qp,Ui]
   repeat (go_big_quiet_step (fail))
   refine wpQuiet_nil ?_;refine wpList_store_mid rfl 84 (.tmp 48) (.tmp 47) rfl g (M.cur*5) #[.slice pa q.b.params.length pc,.slice oa9 (q.ol.length+1) oc9,I q.b.term.kind,I q.b.term.a,.slice ea q.b.term.to.length ec] rfl rfl g4.out Zk (by simp[Value.oneCell']) ?_;go_upto_region 8 with fail
   have h8:∃X',MkIn (W10.drew.setCells g (M.cur*5) [.slice pa q.b.params.length pc,.slice oa9 (q.ol.length+1) oc9,I q.b.term.kind,I q.b.term.a,.slice ea q.b.term.to.length ec]) K X' {M with next:=uN M o.code,f:=M.f.set M.cur {q.b with ops:=q.b.ops++ [{o with res:=R }]}} (Y g l.length c) vv (l.set M.cur ⟨{q.b with ops:=q.b.ops++ [{o with res:=R }]},q.pv,.slice oa9 (q.ol.length+1) oc9,q.tv,q.ol++ [({o with res:=R },.slice aa o.args.length ac)]⟩)
    /\Stp X wc X' (W10.drew.setCells g (M.cur*5) [.slice pa q.b.params.length pc,.slice oa9 (q.ol.length+1) oc9,I q.b.term.kind,I q.b.term.a,.slice ea q.b.term.to.length ec]):=by
    obtain⟨h,hq,a6,hb,b5,b1,b4,a9,hs⟩:=HC.out;obtain⟨j,d,a4,hz,c1⟩:=HG.out;refine h.putO (M':= {M with next:=uN M o.code,f:=M.f.set M.cur {q.b with ops:=q.b.ops++ [{o with res:=R }]}}) hq rfl (HV.out.1.alloc HV.out.1.size _) d j (fun k e=>?_) (Je _) hz ⟨.slice oa9 (q.ol.length+1) oc9,?_⟩ ⟨?_,H.out.2.2.1.step zn (hs.av K)⟩ rfl ⟨rfl,rfl,rfl,rfl,rfl⟩ ?_
    ·rcases a4 with e2|e2
     ·exact .inl (by rw[<-e2];exact e)
     ·right;have e3:=e2.symm.trans e;have:=HV.out.1.size;simp at e3;omega
    ·rw[<-f4.out];unfold xG;rw[b5,b4]
    ·obtain⟨o1,o2,o3,o4,o5⟩:=H.out.2.1;refine⟨o1,?_,o3,o4,o5⟩;rw[<-HR.out];unfold sB;have:M.next<=M.sz:=by unfold MS.sz;omega
     have:=H.out.2.2.2.2.2
     show I64 (if uc o.code then(M.next:Int) else -1)
     split<;>exact⟨by omega,by omega⟩
    ·have h1:=sN M.f M.cur q.b {q.b with ops:=q.b.ops++ [{o with res:=R }]} hb;simp at h1;have h2:=H.out.2.2.2.2.2;unfold MS.sz at h2 ⊢;unfold uN;simp only[Nd]
     split<;>omega
   obtain⟨X',hm,d4⟩:=h8;have d3:=HC.out.2.2.2.2.2.2.2.2.trans d4;have b2:=d4.blk HC.out.2.2.2.2.2.2.2.1 (fun e=>by have:=H.out.1.xl _ e;omega);generalize k6:W10.drew.setCells g (M.cur*5) [.slice pa q.b.params.length pc,.slice oa9 (q.ol.length+1) oc9,I q.b.term.kind,I q.b.term.a,.slice ea q.b.term.to.length ec]=WF at *;generalize l.set M.cur ⟨{q.b with ops:=q.b.ops++ [{o with res:=R }]},q.pv,.slice oa9 (q.ol.length+1) oc9,q.tv,q.ol++ [({o with res:=R },.slice aa o.args.length ac)]⟩=lst at *;rw[HR.out] at b2;have x1:=zA (i:=1) b2 rfl;have y:=Ja (Jb hm (Jb d3 b2))
   have g1: {M with next:=uN M o.code,f:=M.f.set M.cur {q.b with ops:=q.b.ops++ [{o with res:=R }]}}= {M.emit o with vals:=M.vals }:=by
    unfold MS.emit;rw[xI HC.out.2.2.2.1,<-HR.out];rfl
   have g5:=Ja g1;clear hm d4 d3 b2 k6 g1 c4 c5 l0 l1 l2 l3 l4 HG g4 f4 HV k2;obtain⟨r,hr⟩:∃r,uc o.code=r:=⟨_,rfl⟩
   have c3:=Ja hr;clear hr;cases r
   ·obtain rfl:R=-1:=by rw[<-HR.out];unfold sB;rw[c3.out];rfl
    go_wp2;go_ret;have a1:=y.out.1;rw[g5.out] at a1;have e: {M.emit o with vals:=M.vals }=M.emit o:=by unfold MS.emit;rw[c3.out];rfl
    rw[e] at a1;exact⟨zh HR.out.symm,X',⟨_,_,_,a1⟩,y.out.2.1⟩
   ·obtain rfl:R=(M.next:Int):=by rw[<-HR.out];unfold sB;rw[c3.out];rfl
    obtain⟨va,vc,d1⟩:=zG y.out.1.vown;have j:=y.out.1.vown;have c7:=y.out.1.c7;have f7:=y.out.1.free 7;have f8:=lt_of_block y.out.1.blk;have nb:=zC j y.out.1.blk (.inr Zd);rw[d1] at j c7 nb;have h9:=Ja j;have m1:=Ja d1
    have m5:M.vals.length<=1000000:=by
     have h2:=H.out.2.2.2.2.2;unfold MS.sz at h2;omega
    have l9:∀o,T (WF.alloc o) K.pm 7 (.slice va M.vals.length vc):=fun o=>(Oo (w:=WF) (Below.heap_alloc _ _ _ f8)).trans c7
    have l8:∀o,N (WF.alloc o) K.pm 7:=fun o=>(Qm (w:=WF) (Below.heap_alloc _ _ _ f8)).trans f7
    have i2:∀o,T (WF.alloc o) w.heap.size 1 (I (M.next:Int)):=fun o=>(Oo (w:=WF) (Below.heap_alloc _ _ _ (lt_of_block y.out.2.2))).trans x1
    have j1:=zC j y.out.2.2 (.inr Zd);have n7:K.B<=WF.heap.size:=y.out.1.size;have m3:=lt_of_block y.out.2.2;obtain⟨ij,k3,h4,g8,g6⟩:=info_parts Tryz.info_int;clear j d1;go_upto_region 9 with fail
    go_region_law (first|(refine step_append_lies _ (by rfl) (.tmp 56) (.tmp 59) _ (by rfl) K.B 3 ij (I 0) 1 8 Tryz.underlying22 k3 h4 g8 g6 rfl Zo (.slice va M.vals.length vc) M.vals.length (M.vals.map zN) (by rfl) ((h9.out.alloc _).drew) ⟨WF.heap.size,0,none⟩ 1 1 [I (M.next:Int)] (by rfl) (by rfl) (Oi (cs:=#[I (M.next:Int)]) (t:=3) (fr:=(0,0)) (heap_alloc_new WF _)) (by simp[Value.oneCell']) Zo (by unfold maxLen;omega) Zo Zt (WF.heap.size+1) Zs ?_;intro gg b3 w3 f6 d a4 m2;have n9:=(d.cell_far ⟨K.pm,7,none⟩ Zt (Ne.symm nb)).trans (l9 _);have n8:=(d.frozen_far ⟨K.pm,7,none⟩ Zt (Ne.symm nb)).trans (l8 _);have bp3:=(d.cell_far ⟨w.heap.size,1,none⟩ Zt (Ne.symm j1)).trans (i2 _)))
    all_goals go_wp2_with fail
    all_goals go_ret
    all_goals (
     have c8:(show MS from {M with next:=uN M o.code,f:=M.f.set M.cur {q.b with ops:=q.b.ops++ [{o with res:=(M.next:Int)}]}}).sz+1<=1000000:=by
      have h1:=sN M.f M.cur q.b {q.b with ops:=q.b.ops++ [{o with res:=(M.next:Int)}]} HC.out.2.2.2.1;simp at h1;have h2:=H.out.2.2.2.2.2;unfold MS.sz at h2 ⊢;unfold uN;simp only[Nd]
      split<;>omega
     have g2:=xN d;rw[<-m1.out] at g2 a4
     have hP:=y.out.1.putV (vv':=Y gg (M.vals.length+1) b3) (x:=(M.next:Int)) g2 f6 (fun k e=>by
      have e2:gg=k:=by simpa[Value.ownBlock] using e
      subst e2;rcases a4 with e3|e3
      ·exact .inl e3
      ·right;omega) (by have:=H.out.2.2.2.2.2;have:M.next<=M.sz:=by(unfold MS.sz;omega)
                        exact⟨by omega,by omega⟩) c8
     have a1:=hP.1
     have e:(show MS from {(show MS from {M with next:=uN M o.code,f:=M.f.set M.cur {q.b with ops:=q.b.ops++ [{o with res:=(M.next:Int)}]}}) with vals:=M.vals++ [(M.next:Int)]})=M.emit o:=by
      have:=g5.out;have h3:(M.emit o).vals=M.vals++ [(M.next:Int)]:=by unfold MS.emit;rw[c3.out];rfl
      rw[<-h3];exact congrArg (fun m:MS=> {m with vals:=(M.emit o).vals }) this
     have e5:=congrArg (fun m=>MkIn (w3.setCell ⟨K.pm,7,none⟩ (Y gg (M.vals.length+1) b3)) K (fun k=>X' k∨(Value.slice (some ⟨gg,0,none⟩) (M.vals.length+1) b3).ownBlock=some k) m (Y g l.length c) (Y gg (M.vals.length+1) b3) lst) e
     exact⟨zh HR.out.symm,_,⟨_,_,_,cast e5 a1⟩,y.out.2.1.trans hP.2⟩)
theorem Tryz.info_irblock:(Tryz.prog.info? 84).map (fun i=>(i.zero,i.size,i.bytes))=some (some (.agg #[.slice none 0 0,.slice none 0 0,I 0,I 0,.slice none 0 0]),5,88):=by kernel_rfl
def iZ (next i:Nat):List Int:=(List.range i).map fun k=>((next+k:Nat):Int)
theorem jE (next i:Nat):iZ next (i+1)=iZ next i++ [((next+i:Nat):Int)]:=by unfold iZ;rw[List.range_succ,Js];rfl
theorem parL_len (next i:Nat):(iZ next i).length=i:=by unfold iZ;simp
structure BlkMid (w:World) (K:MKC) (M:MS) (fv vv:Value) (pv:Value) (i:Nat) (wx:World):Prop where
 box:wx.heap[w.heap.size]? =some (.cells #[pv,.slice none 0 0,.int .i64 0,.int .i64 0,.slice none 0 0] 84 (0,0))
 own:wx.ownsRow (w.heap.size+1) 3 1 pv i ((iZ M.next i).map zN)
 size:w.heap.size+1<=wx.heap.size
 rest:wx.os=w.os/\wx.tape=w.tape/\wx.output=w.output
 kept:∀k,k<w.heap.size->k≠K.pm->wx.heap[k]? =w.heap[k]?
 pm:wx.heap[K.pm]? =some (.cells (uC K {M with next:=M.next+i } fv vv) 128 (0,0))
theorem BlkMid.mk'{wx:World}{fv pv:Value}{i:Nat}(h:MkIn w K X M fv vv l)(hm:BlkMid w K M fv vv pv i wx)(c:M.sz+i<=1000000):MkIn wx K X {M with next:=M.next+i } fv vv l/\Stp X w X wx:=
 h.only (by have:=hm.size;omega) hm.rest hm.kept hm.pm rfl rfl (by unfold MS.sz at *;simp only at *;omega) h.lft
theorem BlkMid.start{fv:Value}(h:MkIn w K X M fv vv l):BlkMid w K M fv vv (F) 0 (w.alloc (G #[F,F,I 0,I 0,F] 84)):=
 ⟨zI rfl,Jv _ _ _ _,by simp,⟨rfl,rfl,rfl⟩,fun k hk _=>Below.heap_alloc w _ k hk,zB h.blk⟩
theorem BlkMid.next{wr w3:World}{fv pv c:Value}{i:Nat}(h:MkIn w K X M fv vv l)(hm:BlkMid w K M fv vv pv i wr){o:Obj}(hg:((wr.setCell ⟨K.pm,6,none⟩ (I ((M.next+i+1:Nat):Int))).alloc o).grownBy w3 pv.ownBlock)
 (d:w3.ownsRow (w.heap.size+1) 3 1 c (i+1) ((iZ M.next i).map zN++ [zN ((M.next+i:Nat):Int)])):BlkMid w K M fv vv c (i+1) (w3.setCell ⟨w.heap.size,0,none⟩ c):=by
 have g:=lt_of_block h.blk;have j:=lt_of_block hm.pm;have q:=lt_of_block hm.box;have n1:=zC hm.own hm.box (.inr Zd);have n2:=zC hm.own hm.pm (.inr Zd);have b1:=zL hg (zB (o:=o) (zR (a:=⟨K.pm,6,none⟩) (u:=I ((M.next+i+1:Nat):Int)) hm.box (by show w.heap.size≠K.pm;omega))) n1;have p1:=zL hg (zB (o:=o) (zD hm.pm (i:=6) (I ((M.next+i+1:Nat):Int)))) n2;have hs:=hg.size;have m:=hm.size;simp at hs;refine⟨zD b1 _,?_,by simp;omega,⟨hg.os.trans hm.rest.1,hg.tape.trans hm.rest.2.1,hg.output.trans hm.rest.2.2⟩,fun k hk hne=>?_,?_⟩
 ·rw[jE,Js];exact ownsRow_setCell_other d (fun e=>zC d b1 (.inr Zd) (by simpa using e)) _
 ·refine(Below.heap_setCell w3 ⟨w.heap.size,0,none⟩ _ k (by show k≠w.heap.size;omega)).trans ((hg.block k Zt (fun e=>?_)).trans ((Below.heap_alloc _ _ k Zt).trans ((Below.heap_setCell wr ⟨K.pm,6,none⟩ _ k hne).trans (hm.kept k hk hne))));have:=(hm.own.lt k e.symm).1;omega
 ·exact zR p1 (by show K.pm≠w.heap.size;omega)
theorem rU(h:wW w K X M){n:Nat}(hz:M.sz+1+n<=1000000):
 A 56 #[Q K.pm,I n] w (yk K X w (M.block n) (I (M.f.length:Int))):=by
 obtain⟨fv,vv,l,h⟩:=h;have H:=Ja (Jb h hz);have a0:=BlkMid.start h;have d7:=Ja a0;have e1:=lt_of_block h.blk;clear h hz a0;go_enter Tryz.func56,Tryz.ntmps56;go_wp2
 go_loopw [6] (fun iv wx=>∃(i:Nat) (pv:Value),i<=n/\iv=I i/\Hid (BlkMid w K M fv vv pv i wx)) (fun iv _=>n-(intOf iv).toNat)
 case atStart=>exact⟨0,_,Jt _,rfl,d7⟩
 case round=>
  obtain⟨i,pv,hi,rfl,c⟩:=hrel
  by_cases c8:i<n
  ·have c5:(i:Int)<n:=Zo;have a6:i+1<=n:=c8;obtain⟨pa,pc,j⟩:=zG c.out.own;have hk:=(BlkMid.mk' H.out.1 c.out (by have:=H.out.2;omega)).1;have a8:A 110 #[Q K.pm] wr.drew fun e w'=>e=.returned (I ((M.next+i:Nat):Int))/\w'=(wr.setCell ⟨K.pm,6,none⟩ (I ((M.next+i+1:Nat):Int))).drew:=ot (hk.keep (Below.refl _ _).drew) (by have:=H.out.2;unfold MS.sz at *;simp only at *;omega)
   have d:=c.out.own;rw[j] at d;have c0:=zA (i:=0) c.out.box rfl;rw[j] at c0;have n1:=zC d c.out.box (.inr Zd);have e5:i<=1000000:=by have:=H.out.2;omega
   have d2:=lt_of_block c.out.box;have e0:=c.out.size;obtain⟨ij,d0,c3,c2,c1⟩:=info_parts Tryz.info_int;have a1:=lt_of_block c.out.pm;have HO:=Ja (Jb d (Jb a8 (Jb j (lt_of_block c.out.box))));have b6:∀(u:Value) (o:Obj),T ((wr.setCell ⟨K.pm,6,none⟩ u).alloc o) w.heap.size 0 (.slice pa i pc):=fun u o=>zA (i:=0) (zB (o:=o) (zR (a:=⟨K.pm,6,none⟩) (u:=u) c.out.box (by show w.heap.size≠K.pm;omega))) (by rw[j];rfl)
   have b5:∀(u:Value) (o:Obj),N ((wr.setCell ⟨K.pm,6,none⟩ u).alloc o) w.heap.size 0:=fun u o=>zE (zB (o:=o) (zR (a:=⟨K.pm,6,none⟩) (u:=u) c.out.box (by show w.heap.size≠K.pm;omega)))
   have a3:∀(u:Value) (o:Obj),((wr.setCell ⟨K.pm,6,none⟩ u).alloc o).ownsRow (w.heap.size+1) 3 1 (.slice pa i pc) i ((iZ M.next i).map zN):=fun u o=>(ownsRow_setCell_other d (fun e=>zC d c.out.pm (.inr Zd) (by simpa using e)) u).alloc o
   have a5:=Ja (Jb a3 (Jb b6 b5));clear j d a8 hk b6 b5 a3;go_upto_region 5 with fail
   go_region_law (first|(refine step_append_lies _ (by rfl) (.tmp 13) (.tmp 16) _ (by rfl) (w.heap.size+1) 3 ij (I 0) 1 8 Tryz.underlying22 d0 c3 c2 c1 rfl Zo (.slice pa i pc) i ((iZ M.next i).map zN) (by rfl) ((a5.out.1 _ _).drew) ⟨wr.heap.size,0,none⟩ 1 1 [I ((M.next+i:Nat):Int)] (by rfl) (by rfl) (Oi (cs:=#[I ((M.next+i:Nat):Int)]) (t:=3) (fr:=(0,0)) (zI Zs)) (by simp[Value.oneCell']) Zo (by unfold maxLen;omega) Zo Zt (wr.heap.size+1) Zs ?_;intro gg a2 w3 q g a9 c7;have d5:=(g.cell_far ⟨w.heap.size,0,none⟩ Zt (Ne.symm n1)).trans (a5.out.2.1 _ _);have d3:=(g.frozen_far ⟨w.heap.size,0,none⟩ Zt (Ne.symm n1)).trans (a5.out.2.2 _ _))|(go_simp;go_at_call 110;refine HO.out.2.1.mono ?_;rintro e w4 ⟨rfl,rfl⟩))
   all_goals go_wp2_with fail
   all_goals (
    refine⟨⟨i+1,Y gg (i+1) a2,a6,by go_num,Ja (BlkMid.next H.out.1 c.out (by rw[HO.out.2.2.1];exact xN g) q)⟩,by simp[intOf];omega⟩)
  ·obtain rfl:i=n:=by omega
   have c5:¬(i:Int)<i:=Zo;obtain⟨hk,a0⟩:=BlkMid.mk' H.out.1 c.out (by have:=H.out.2;omega);obtain⟨pa,pc,j⟩:=zG c.out.own;subst j;obtain⟨fa,fc,d1⟩:=zG hk.own;subst d1
   have a4:wm wr (K.av X) (.slice pa i pc) (wJ M.next i).params:=by
    refine rO c.out.own (parL_len _ _) (fun x hx=>?_) (fun k e y=>?_)
    ·unfold iZ at hx;obtain⟨m,hm,rfl⟩:=Nu.1 hx;have h1:=H.out.2;have h2:=Ol.1 hm;unfold MS.sz at h1;exact⟨by omega,by omega⟩
    ·have h2:=(c.out.own.lt k e).1;rcases y with y|y
     ·have:=H.out.1.xl k y;omega
     ·have:=H.out.1.env.zl k y;omega
   have d:=hk.own;have nb:=zC d c.out.pm (.inr Zd);have c4:=hk.c4;have a1:=lt_of_block c.out.pm;have d2:=lt_of_block c.out.box;have b0:=zA (i:=0) c.out.box rfl;have b1:=zA (i:=1) c.out.box rfl;have b2:=zA (i:=2) c.out.box rfl;have b3:=zA (i:=3) c.out.box rfl;have b4:=zA (i:=4) c.out.box rfl;have d6:∀o,T (wr.alloc o) K.pm 4 (.slice fa l.length fc):=fun o=>(Oo (w:=wr) (Below.heap_alloc _ _ _ a1)).trans c4
   have d4:∀o,N (wr.alloc o) K.pm 4:=fun o=>(Qm (w:=wr) (Below.heap_alloc _ _ _ a1)).trans (hk.free 4)
   have a7:l.length=M.f.length:=H.out.1.len;have e4:l.length<=1000000:=by have:=H.out.1.flen;omega
   have e6:K.B<=wr.heap.size:=hk.size;obtain⟨ik,c9,b9,b8,b7⟩:=info_parts Tryz.info_irblock;have HO:=Ja (Jb hk (Jb a0 (Jb a4 (Jb d a7))));clear hk a0 a4 d a7;go_upto_region 6 with fail
   go_region_law (first|(refine step_append_lies _ (by rfl) (.tmp 24) (.tmp 26) _ (by rfl) K.B 84 ik (.agg #[F,F,I 0,I 0,F]) 5 88 Tryz.underlying37 c9 b9 b8 b7 rfl Zo (.slice fa l.length fc) l.length (l.flatMap xG) (by rfl) ((HO.out.2.2.2.1.alloc _).drew) ⟨wr.heap.size,0,none⟩ 1 1 [.slice pa i pc,F,I 0,I 0,F] (by rfl) (by rfl) (Oi (cs:=#[.slice pa i pc,F,I 0,I 0,F]) (t:=84) (fr:=(0,0)) (heap_alloc_new wr _)) (by simp[Value.oneCell']) Zo (by unfold maxLen;omega) Zo Zt (wr.heap.size+1) Zs ?_;intro gg a2 w3 q g a9 c7;have d5:=(g.cell_far ⟨K.pm,4,none⟩ Zt (Ne.symm nb)).trans (d6 _);have d3:=(g.frozen_far ⟨K.pm,4,none⟩ Zt (Ne.symm nb)).trans (d4 _)))
   all_goals go_wp2_with fail
   all_goals go_ret
   all_goals (
    have hP:=HO.out.1.putB (fv':=Y gg (l.length+1) a2) (b:=wJ M.next i) (pv:=.slice pa i pc) (xN g) ⟨rfl,rfl⟩ q (fun k e=>by
     have e2:gg=k:=by simpa[Value.ownBlock] using e
     subst e2;rcases a9 with e3|e3
     ·exact .inl e3
     ·right;omega) HO.out.2.2.1 (by have:=H.out.2;unfold MS.sz at *;simp only at *;omega)
    refine⟨zh (by have:=HO.out.2.2.2.2;omega),_,⟨_,_,_,hP.1⟩,HO.out.2.1.trans hP.2⟩)
theorem emRes_of{c:Int}(h:uc c=true):sB M c=(M.next:Int):=by unfold sB;rw[h];rfl
theorem vG (x:Int)(h1:-1000000<=x)(h2:x<=1000000):I64 x:=⟨by omega,by omega⟩
theorem yF (x:Int)(h:(decide (-1000000<=x) && decide (x<=1000000))=true):I64 x:=by
 simp only[Jm,decide_eq_true_eq] at h;exact vG x h.1 h.2
theorem conOp_ok {n:Nat}(c:n<65536):qN (conOp n):=⟨yF _ rfl,yF _ rfl,yF _ rfl,yF _ rfl,c⟩
theorem ks(h:wW w K X M){n:Nat}(j:n<65536)(d:M.cur<M.f.length)(g:M.sz+3<=1000000):
 A 114 #[Q K.pm,U n] w (yk K X w (M.num n) (I (M.next:Int))):=by
 have c:=rD h (conOp_ok j) yE.nil d g;rw[emRes_of (show uc (conOp n).code=true from rfl)] at c;have i:=Ja (show A 132 #[Q K.pm,.agg #[I 1,I 0,I 0,I 0,U n,F]] w (yk K X w (M.num n) (I (M.next:Int))) from c);clear h c d g;go_enter Tryz.func114,Tryz.ntmps114;go_wp2_with (go_at_call 132;go_must (refine i.out.mono ?_;rintro e w1 ⟨rfl,hm⟩))
 go_ret;exact⟨rfl,hm⟩
theorem MkIn.valAt{fv:Value}{g n c:Nat}(h:MkIn w K X M fv (Y g n c) l){i:Nat}(hi:i<M.vals.length):T w g i (I (M.vals.getD i 0)):=by
 have:=h.vown.cells rfl i (I (M.vals.getD i 0)) (by rw[Jr,Jd hi,Jj,Jd hi];rfl);rw[Addr.add_mid,Ng] at this;exact this
theorem pu(h:wW w K X M)(a6:M.cur<M.f.length)(hz:M.sz+4<=1000000):
 A 58 #[Q K.pm] w (yk K X w (zJ K.E M).2 (I (zJ K.E M).1)):=by
 obtain⟨fv,vv,l,h⟩:=h;have c7:=h.c7;have u:=h.vown;obtain⟨va,vc,rfl⟩:=zG u;have b6:M.vals.length<=1000000:=by unfold MS.sz at hz;omega
 have H:=Ja (Jb h (Jb a6 hz));clear h a6 hz
 by_cases h0:M.vals.length=0
 ·have d:zJ K.E M=((M.next:Int),M.tick.num (tkV K.E M 9)):=by unfold zJ;rw[if_pos h0]
  have c0:=Ja d;have t0:((M.vals.length:Int)==0)=true:=by rw[beq_iff_eq];omega
  have b4:(M.vals.length==0)=true:=by rw[beq_iff_eq];omega
  have a9:=uD H.out.1 (n:=9) Zd Zd (by have:=H.out.2.2;omega);have a4:=aaE K.E M (n:=9) Zd;have HT:=Ja a9;clear d u h0 a9;go_enter Tryz.func58,Tryz.ntmps58;go_wp2_with (first|(go_at_call 55;go_must (refine HT.out.mono ?_;rintro e w1 ⟨rfl,y,q⟩))|(go_at_call 114;go_must (refine(ks y.at (n:=tkV K.E M 9) Zo H.out.2.1 (by have:=(zT M).sz;have:=H.out.2.2;omega)).mono ?_;rintro e w2 ⟨rfl,X2,c,j⟩)))
  go_ret;rw[c0.out];exact⟨rfl,X2,c,q.trans j⟩
 ·have hp:0<M.vals.length:=Zo;obtain⟨g,c5,e,c4,c3⟩:=u.form hp;cases e;have t0:((M.vals.length:Int)==0)=false:=Ze;have b4:(M.vals.length==0)=false:=by rw[beq_eq_false_iff_ne];omega
  have b9:=Ja (uD H.out.1 (n:=M.vals.length) hp b6 (by have:=H.out.2.2;omega));have a4:=aaE K.E M hp;clear h0 u;go_enter Tryz.func58,Tryz.ntmps58;go_upto_region 4 with(go_at_call 55;go_must (refine b9.out.mono ?_;rintro e w1 ⟨rfl,y,q⟩))
  have a8:=Ja (uD y (n:=3) Zd Zd (by have:=(zT M).sz;have:=H.out.2.2;omega));obtain⟨z3,k⟩:∃z,tkV K.E M.tick 3=z:=⟨_,rfl⟩
  rw[k] at a8;obtain⟨z0,o⟩:∃z,tkV K.E M M.vals.length=z:=⟨_,rfl⟩
  rw[o] at a4
  try rw[o]
  by_cases h3:0<z3
  ·have b7:(0:Int)<(z3:Int):=Zo;have d:zJ K.E M=(M.vals.getD (M.vals.length-1-tkV K.E M.tick.tick (min 4 M.vals.length)) 0,M.tick.tick.tick):=by unfold zJ;rw[if_neg Zo,if_pos (by rw[k];exact h3)]
   have hZ:=Ja (Jb d (Jb k o));clear d k o;go_upto_region 5 with(go_at_call 55;go_must (refine a8.out.mono ?_;rintro e w2 ⟨rfl,c,j⟩))
   have x:0<min 4 M.vals.length:=Zo;have b3:∀(ts:Array TypeId) (t:TypeId) (W:World),(Builtin.min_ ts t #[I 4,I (M.vals.length:Int)]).run Tryz.prog W=.ok (I ((min 4 M.vals.length:Nat):Int)) W:=fun ts t W=>by rw[show((min 4 M.vals.length:Nat):Int)=if(M.vals.length:Int)<(4:Int) then(M.vals.length:Int) else 4 by split<;>omega];exact run_min_int2 ..
   have a7:=Ja (uD (c.keep (Below.refl _ _).drew) (n:=min 4 M.vals.length) x Zo (by have:=(zT M).sz;have:=(zT M.tick).sz;have:=H.out.2.2;omega));have a3:=aaE K.E M.tick.tick x;obtain⟨z4,a0⟩:∃z,tkV K.E M.tick.tick (min 4 M.vals.length)=z:=⟨_,rfl⟩
   rw[a0] at a7 a3;obtain⟨mn,a1⟩:∃m,min 4 M.vals.length=m:=⟨_,rfl⟩
   rw[a1] at a7 b3 a3;have c2:mn<=M.vals.length:=Zo;have b8:=Ja (Jb a0 a1);have d7:=c.c7;have c1:=Ja (Jb c (q.trans j));clear a0 a1 y q c j c7 x
   go_region_held3 (fun w'=>T w' K.pm 7 (Y g M.vals.length vc)) (first|exact d7|assumption|(exact MkIn.c7 Zz))
    ((go_at_call 55;refine a7.out.mono ?_;rintro e w3 ⟨rfl,a2,b1⟩))
   have hv:=a2.valAt (i:=M.vals.length-1-z4) (show M.vals.length-1-z4<M.vals.length by omega);obtain⟨ix,a5⟩:∃ix:Nat,M.vals.length-1-z4=ix:=⟨_,rfl⟩
   have b2:IntKind.i64.wrap (IntKind.i64.wrap ((M.vals.length:Int)-1)-(z4:Int))=(ix:Int):=by
    rw[Om ((M.vals.length:Int)-1) Zo,Om _ Zo];omega
   rw[b2];rw[a5] at hv;have b5:(ix:Int)<(M.vals.length:Int):=Zo;have b0:=c1.out.2.trans ((Stp.of_below (Below.refl _ _).drew).trans b1);have HR:=Ja (Jb a2 (Jb b0 a5));clear a2 b0 b1 a5 b2 d7;go_wp2;go_ret;rw[hZ.out.1];exact⟨zh (by rw[b8.out.1,HR.out.2.2,Jj];rfl),X,HR.out.1.at,HR.out.2.1⟩
  ·have b7:¬(0:Int)<(z3:Int):=Zo;have d:zJ K.E M=(M.vals.getD z0 0,M.tick.tick):=by unfold zJ;rw[if_neg Zo,if_neg (by rw[k];exact h3),o]
   have hZ:=Ja d;clear d k o;go_upto_region 6 with(go_at_call 55;go_must (refine a8.out.mono ?_;rintro e w2 ⟨rfl,c,j⟩))
   have hv:=c.valAt (i:=z0) a4;have d7:=c.c7;have b5:(z0:Int)<(M.vals.length:Int):=Zo;have HR:=Ja (Jb c (q.trans j));clear c q j y;go_wp2;go_ret;rw[hZ.out];exact⟨rfl,X,HR.out.1.at,HR.out.2⟩
theorem addr_any(h:wW w K X M)(a3:M.cur<M.f.length)(hz:M.sz+6<=1000000):
 A 133 #[Q K.pm] w (yk K X w (yJ K.E M).2 (I (yJ K.E M).1)):=by
 obtain⟨fv,vv,l,h⟩:=h;have a6:=Ja (uD h (n:=24) Zd Zd Zo);have H:=Ja (Jb a3 hz);obtain⟨z1,x⟩:∃z,tkV K.E M 24=z:=⟨_,rfl⟩
 rw[x] at a6;have b0:=Ja x;clear h a3 hz x
 by_cases h0:z1=23
 ·have d:yJ K.E M=zJ K.E M.tick:=by unfold yJ;rw[if_pos (by rw[b0.out];exact h0)]
  have t:=Ja d;have t0:((z1:Int)==23)=true:=by rw[beq_iff_eq];omega
  have b4:(z1==23)=true:=by rw[beq_iff_eq];omega
  clear d h0;go_enter Tryz.func133,Tryz.ntmps133;go_wp2_with (first|(go_at_call 55;go_must (refine a6.out.mono ?_;rintro e w1 ⟨rfl,q,m⟩))|(go_at_call 58;go_must (refine(pu q.at H.out.1 (by have:=(zT M).sz;have:=H.out.2;omega)).mono ?_;rintro e w2 ⟨rfl,X2,c,j⟩)))
  go_ret;rw[t.out];exact⟨rfl,X2,c,m.trans j⟩
 ·have d:yJ K.E M=((M.next:Int),M.tick.tick.tick.emit ⟨2,0,(tkV K.E M.tick 2:Nat),0,tkV K.E M.tick.tick (sE (tkV K.E M.tick 2)),[]⟩):=by unfold yJ;rw[if_neg (by rw[b0.out];exact h0)]
  have t:=Ja d;have t0:((z1:Int)==23)=false:=Ze;have b4:(z1==23)=false:=by rw[beq_eq_false_iff_ne];omega
  clear d h0;go_enter Tryz.func133,Tryz.ntmps133;go_upto_region 3 with(go_at_call 55;go_must (refine a6.out.mono ?_;rintro e w1 ⟨rfl,q,m⟩))
  have b1:=Ja (uD q (n:=2) Zd Zd (by have:=(zT M).sz;have:=H.out.2;omega));have b5:=aaE K.E M.tick (n:=2) Zd;obtain⟨k,hk⟩:∃z,tkV K.E M.tick 2=z:=⟨_,rfl⟩
  rw[hk] at b1 b5;have HK:=Ja hk;clear hk;go_upto_region 4 with(go_at_call 55;go_must (refine b1.out.mono ?_;rintro e w2 ⟨rfl,c,j⟩))
  have g1:=(zT M).sz;have g2:=(zT M.tick).sz;have g3:=(zT M.tick.tick).sz;have a5:=Ja (uD c (n:=sE k) (by unfold sE;split<;>decide) (by unfold sE;split<;>decide) (by have:=H.out.2;omega));have a2:=aaE K.E M.tick.tick (n:=sE k) (by unfold sE;split<;>decide);obtain⟨z3,u⟩:∃z,tkV K.E M.tick.tick (sE k)=z:=⟨_,rfl⟩
  rw[u] at a5 a2;have a9:=Ja u;obtain⟨db,b6,b7,a8⟩:=c.env.data;have c2:=c.c2;have p4:=zA (i:=4) c.env.prog rfl;rw[b6] at p4;have b8:z3<15:=by unfold sE at a2;split at a2<;>omega
  have HS:=Ja (m.trans j)
  have a7:∀(w3:World),MkIn w3 K X M.tick.tick.tick fv vv l->A 132 #[Q K.pm,.agg #[I 2,I 0,I k,I 0,U z3,F]] w3 (yk K X w3 (M.tick.tick.tick.emit ⟨2,0,(k:Int),0,z3,[]⟩) (I (M.next:Int))):=fun w3 g=>
   rD g.at (o:=⟨2,0,(k:Int),0,z3,[]⟩) ⟨yF _ rfl,yF _ rfl,vG (k:Int) Zo Zo,yF _ rfl,(by show z3<65536;omega)⟩ yE.nil H.out.1 (by have:=H.out.2;omega)
  have b2:=Ja a7;clear q m j u c b7 a7;have b3:k=0∨k=1:=Zo;rcases b3 with rfl|rfl
  ·have d2:T w2 db 2 (U 16):=zA a8 rfl;have a4:=Ja (show A 55 #[Q K.pm,I 15] w2 _ from a5.out);go_wp2_with (first|(go_at_call 55;go_must (refine a4.out.mono ?_;rintro e w3 ⟨rfl,g,a0⟩))|(go_at_call 132;go_must (refine(b2.out _ g).mono ?_;rintro e w4 ⟨rfl,X4,a1,y⟩)))
   go_ret;rw[t.out,HK.out,a9.out];exact⟨rfl,X4,a1,HS.out.trans (a0.trans y)⟩
  ·have d2:T w2 db 5 (U 7):=zA a8 rfl;have a4:=Ja (show A 55 #[Q K.pm,I 6] w2 _ from a5.out);go_wp2_with (first|(go_at_call 55;go_must (refine a4.out.mono ?_;rintro e w3 ⟨rfl,g,a0⟩))|(go_at_call 132;go_must (refine(b2.out _ g).mono ?_;rintro e w4 ⟨rfl,X4,a1,y⟩)))
   go_ret;rw[t.out,HK.out,a9.out];exact⟨rfl,X4,a1,HS.out.trans (a0.trans y)⟩
theorem pN{b n:Nat}{l:List Nat}(h:L w b (l.map wz).toArray 5)(hl:l.length=n):
 (convert 49 9 (Y b n n)).run Tryz.prog w=.ok (.string (y9 l)) w:=by
 refine run_convert_bytes_arg w 49 5 Tryz.underlying49 Tryz.underlying5 b 0 n n (l.map fun(n:Nat)=>(n:Int)) (by simpa using hl) (fun i hi=>?_) 9 Tryz.underlying9;rw[Ng];have c:i<l.length:=Zo;refine zA h ?_;simp[Jj,Jd c,wz]
theorem mG (l:List Nat):(y9 l).size=l.length:=by
 unfold y9 strOfNums
 show Array.size _=_
 simp
structure SmallP (p:IProg):Prop where
 fn:p.funcs.length<=2000000/\∀f∈p.funcs,vZ f/\jx f
 ar:p.args.length<=2000000
 da:p.data.length<=2000000
 ba:p.banks.length<=2000000
structure SmB (N:Nat) (b:IBlk):Prop where
 par:b.params.length<=N
 ops:b.ops.length<=N
 tos:b.term.to.length<=N
 oarg:∀o∈b.ops,o.args.length<=N
 earg:∀e∈b.term.to,e.args.length<=N
structure SmP (N:Nat) (p:IProg):Prop where
 fn:p.funcs.length<=N
 fs:∀f∈p.funcs,f.length<=N/\∀b∈f,SmB N b
 ar:p.args.length<=N
 da:p.data.length<=N
 ba:p.banks.length<=N
theorem SmB.mono {N M:Nat}(c:N<=M){b:IBlk}(h:SmB N b):SmB M b:=⟨by have:=h.par;omega,by have:=h.ops;omega,by have:=h.tos;omega,fun o ho=>by have:=h.oarg o ho;omega,fun o ho=>by have:=h.earg o ho;omega⟩
theorem SmP.mono {N M:Nat}(c:N<=M){p:IProg}(h:SmP N p):SmP M p:=
 ⟨by have:=h.fn;omega,fun f hf=>⟨by have:=(h.fs f hf).1;omega,fun b hb=>((h.fs f hf).2 b hb).mono c⟩,by have:=h.ar;omega,by have:=h.da;omega,by have:=h.ba;omega⟩
theorem SmP.small {N:Nat}{p:IProg}(h:SmP N p)(c:N<=2000000):SmallP p:=by
 have h:=h.mono c;exact⟨⟨h.fn,fun f hf=>⟨⟨(h.fs f hf).1,fun b hb=>⟨((h.fs f hf).2 b hb).par,((h.fs f hf).2 b hb).ops,((h.fs f hf).2 b hb).tos⟩⟩,fun b hb=>⟨((h.fs f hf).2 b hb).oarg,((h.fs f hf).2 b hb).earg⟩⟩⟩,h.ar,h.da,h.ba⟩
theorem SmP.sized {N:Nat}{p:IProg}(h:SmP N p)(c:N<=65536):mW p:=fun f hf=>
 ⟨(((h.mono (show N<=2000000 by omega)).small (Je _)).fn.2 f hf).1,fun b hb=>by have:=((h.fs f hf).2 b hb).par;omega⟩
theorem acZ {f:List IBlk}{b:IBlk}(h:b∈f):b.ops.length<=opsN f:=by
 unfold opsN
 induction f with
 |nil=>cases h
 |cons x f ih=>
  rw[Ql,List.sum_cons];rcases Jq.1 h with rfl|h
  ·omega
  ·have:=ih h;omega
theorem opF_args{p:IProg}(c:∀i,p.args.getD i 0<=8)(h:opF p o=true):o.args.length<=8:=by
 unfold opF at h;rw[Jm] at h;have h2:=h.2
 split at h2
 ·simp only[Jm,decide_eq_true_eq] at h2;have:=c o.a.toNat;omega
 ·split at h2
  ·simp only[Jm,decide_eq_true_eq] at h2;omega
  ·simp only[Jm,decide_eq_true_eq] at h2;omega
theorem acK (s:List Int):SmP 15000 (uR s):=by
 have j:=sm s;refine⟨by rw[qA];omega,fun f hf=>?_,by show(yS s (mdN s)).length<=_;rw[yY];omega,by show 3<=15000;decide,by show 1<=15000;decide⟩;obtain⟨k,hk⟩:=Ny hf;have c:=(Jh.1 hk).1;rw[qA] at c;rcases kz s c with⟨h,_⟩|h
 ·rw[hk] at h;cases h;exact⟨by simp,fun b hb=>by cases hb⟩
 ·rw[hk] at h;cases h;obtain⟨pl,h1,_⟩:=gJ (gi s k) (zg s k).2;have g:=lz s k c;have ho:=h1.ops;obtain⟨cur,vals,d⟩:=h1;generalize xR (xC s k) (zg s k).2=M at *;unfold MS.sz at g;refine⟨by omega,fun b hb=>?_⟩;obtain⟨i,hi⟩:=Ny hb;have h3:=d.sml i b hi;have l:=acZ hb;refine⟨by omega,by omega,by omega,fun o hoo=>?_,fun e he=>?_⟩
  ·have:=opF_args (fun i=>by have:=gP s i;show(yS s (mdN s)).getD i 0<=8;omega) (ho b hb o hoo);omega
  ·obtain⟨s',u,bs,_,_,e3,e4,_⟩:=(d.term i b hi (fun e=>e)).2.1 e he;have:=(d.sml s' bs e3).1;omega
theorem cm{B:Nat}{v:Value}{xs:List Int}(h:pg w B v xs):xp zN w B v xs:=by
 obtain⟨a,d,rfl,h1,_,h3⟩:=h;refine⟨a,d,rfl,h1,fun k x hk=>?_⟩;obtain⟨b,o,i,g,c⟩:=h3 k x hk;rw[Nk] at c;exact⟨b,o,i,g,c⟩
theorem aB{B:Nat}{v:Value}{rows:List (List Int)}(h:RowsC w B v rows):aaB zN w B v rows:=by
 obtain⟨a,q,rfl,h1,_,h3⟩:=h
 have t:∃f:Nat->Value,∀k row,rows[k]? =some row->∃b o,a=some ⟨b,o,none⟩/\b<B/\T w b (o+k) (f k)/\xp zN w B (f k) row:=by
  refine⟨fun k=>match a with|some p=>(w.cell? ⟨p.block,p.off+k,none⟩).getD (.bool false)|none=> .bool false,fun k row hk=>?_⟩;obtain⟨b,o,l,i,u,d,y⟩:=h3 k row hk;rw[Nk] at d;subst l;refine⟨b,o,rfl,i,?_,?_⟩
  ·show w.cell? ⟨b,o+k,none⟩=some ((w.cell? ⟨b,o+k,none⟩).getD (.bool false))
   rw[d];rfl
  ·show xp zN w B ((w.cell? ⟨b,o+k,none⟩).getD (.bool false)) row
   rw[d];exact cm y
 obtain⟨f,hf⟩:=t;refine⟨(List.range rows.length).map f,⟨a,q,by simp,by simpa using h1,fun k x hk=>?_⟩,by simp,fun k rv row hk hr=>?_⟩
 ·rw[Jr,Oz] at hk;obtain⟨j,g,rfl⟩:=hk;have c:=(Jh.1 g).1;rw[Un] at c;rw[Oh c] at g;cases g;obtain⟨b,o,l,i,d,_⟩:=hf k _ (Jd c);exact⟨b,o,l,i,d⟩
 ·have m:=(Jh.1 hr).1;rw[Jr,Oh m] at hk;cases hk;exact(hf k row hr).choose_spec.choose_spec.2.2.2
theorem ahD{B:Nat}{sv:Value}{blocks:List IBlk}(hs:vZ blocks)(c:blocks≠ [])(h:∀b∈blocks,ro blocks b.term=true)(hr:pV w B sv (zk blocks)):GraphIn w sv (zy blocks):=
 bU hs c h (aB (iW hr))
theorem set_more{K:SK}{p:IProg}{a9:List IBlk}{s:Slv}(h:SlvAt w K p a9 k s){v:Nat}(hv:v<K.n)(a1:(sq a0 (s.get v)).ok)(hk:¬4<k)(a6:s.knw v=true)(l:lf (sq a0 (s.get v)) (s.get v)=false):
 A 38 #[Q K.sb,I v,.agg #[U (a0.lo:Int),U (a0.hi:Int)]] w (j5 w K p a9 k (s.put v (sq a0 (s.get v)),true)):=by
 have a5:=qf h hv;rw[a6] at a5;have t:=fun(W:World) (y:O w W)=>(h.below y).rcell (v:=(v:Int)) Zo
 generalize hg:s.get (v:Int)=g at *;obtain⟨a,hq⟩:∃a,sq a0 g=a:=⟨_,rfl⟩
 have HH:=Ja (fun W=>afj W a0 g);rw[hq] at HH l a1 ⊢;have b9:¬(4:Int)<(k:Int):=Zo;have b8:=h.ne
 have a4:(((a.lo:Int)==(g.lo:Int)) && ((a.hi:Int)==(g.hi:Int)))=false:=by
  rw[<-l];unfold lf;rw[Bool.eq_iff_iff];simp only[Jm,beq_iff_eq,decide_eq_true_eq];omega
 rw[Ni] at t;have H:=Ja (Jb h a1);have a7:=fun(W:World) (y:O w W)=>(h.below y).cells.2.2.2.2.1
 have HK:=Ja a7;have hn:=h.n64;obtain⟨s4,s7,s8,s9,s10,s6⟩:=h.cells;have HC:=Ja (show ∀W:World,O w W->T W K.sb 8 (.slice (some ⟨K.rb,0,none⟩) K.n K.n)/\T W K.rb (v*2) (U (g.lo:Int))/\T W K.rb (v*2+1) (U (g.hi:Int)) from fun W hb=>⟨(h.below hb).cells.2.2.1,(t W hb).1,(t W hb).2⟩);have l1:=lt_of_block h.cell;have l2:=lt_of_block h.row;have l3:=lt_of_block h.kn;have b3:=Ja a4;clear a7 hk a1 h a4 a6 l s4 s7 s6 s8 s10 t hg hq;go_enter Tryz.func38,Tryz.ntmps38;go_upto_region 2 with(go_at_call 999999;skip)
 obtain⟨X,q⟩:∃X,w.alloc (G #[U (a0.lo:Int),U (a0.hi:Int)] 45)=X:=⟨_,rfl⟩
 have c:=Ja (show O w X/\L X w.heap.size #[U (a0.lo:Int),U (a0.hi:Int)] 45/\w.heap.size<X.heap.size from by
  rw[<-q];exact⟨Below.alloc (Below.refl _ _) (Je _) _,zI rfl,by simp⟩)
 rw[q];clear q a5 s9;have a3:=Ja (show ∀W:World,Below w.heap.size X W->T W K.sb 8 (.slice (some ⟨K.rb,0,none⟩) K.n K.n)/\T W K.rb (v*2) (U (g.lo:Int))/\T W K.rb (v*2+1) (U (g.hi:Int)) from fun W hb=>HC.out W (c.out.1.trans hb));obtain⟨c0,c1,c2⟩:=a3.out X (Below.refl _ _);have x0:=zA (i:=0) c.out.2.1 rfl;have x1:=zA (i:=1) c.out.2.1 rfl;have b4:=c.out.2.2;refine wp_region_noPanic ?_;refine yQ (S:=(fun w'=>T w' K.sb 8 (.slice (some ⟨K.rb,0,none⟩) K.n K.n)/\T w' K.rb (v*2) (U (g.lo:Int))/\T w' K.rb (v*2+1) (U (g.hi:Int))/\T w' w.heap.size 0 (U (a0.lo:Int))/\T w' w.heap.size 1 (U (a0.hi:Int)))) 9 Zk ⟨c0,c1,c2,x0,x1⟩ (fun hHeld=>?_);refine Tl 0 ?_
 try simp only[Yp]
 refine Tl 1 ?_
 try simp only[Yp]
 refine Tl 2 ?_
 try simp only[Yp]
 refine Tl 3 ?_
 try simp only[Yp]
 refine Tl 4 ?_
 try simp only[Yp]
 refine Tl 5 ?_
 try simp only[Yp]
 refine Tl 6 ?_
 try simp only[Yp]
 refine Tl 7 ?_
 try simp only[Yp]
 refine z8 (rs:=[8]) Zk Zs ?_;refine zS.cons (o:=_) rfl (fun K hK=>?_) ?_
 ·skip
  (go_simp;refine(HH.out _).mono ?_;rintro e w1 ⟨rfl,a8⟩;have u:O X w1:=(Below.refl X.heap.size X).drew.trans a8;clear a8;have hk:=zH u c.out.2.1 (lt_of_block c.out.2.1);have f0:=zA (i:=0) hk rfl;have f1:=zA (i:=1) hk rfl;have g0:=zE (i:=0) hk;have g1:=zE (i:=1) hk;have b5:=lt_of_block hk;have x:=a3.out w1 (u.mono (Qd c.out.2.2)))
  refine hK.out _ _ ⟨x.1,x.2.1,x.2.2,f0,f1⟩ (fun hHeld=>?_);clear hK K
  try simp only[Yp]
  refine z8 (rs:=[9]) Zk Zs ?_;refine zS.last (o:=_) rfl (fun K hK=>?_);go_simp;refine hK.out _ _ ?_;clear hK K
  try simp only[Yp]
  refine xj Zk (NoPanic.normal ?_) _;go_upto_region 3 with(go_at_call 999999;skip)
  obtain⟨Y,hY⟩:∃Y,(w1.setCell ⟨w.heap.size,0,none⟩ (U (a.lo:Int))).setCell ⟨w.heap.size,1,none⟩ (U (a.hi:Int))=Y:=⟨_,rfl⟩
  have j:=Ja (show O w Y/\L Y w.heap.size #[U (a.lo:Int),U (a.hi:Int)] 45/\w.heap.size<Y.heap.size from by
   have hh:=zD (i:=1) (zD (i:=0) hk (U (a.lo:Int))) (U (a.hi:Int));rw[hY] at hh
   exact⟨by rw[<-hY];exact((c.out.1.trans (u.mono (Qd c.out.2.2))).setCell (Je _) _).setCell (Je _) _,hh,lt_of_block hh⟩)
  rw[hY];clear hY hk f0 f1 g0 g1 b5 u x a3 c0 c1 c2 x0 x1 b4;have a2:=Ja (show ∀W:World,O Y W->(T W K.sb 8 (.slice (some ⟨K.rb,0,none⟩) K.n K.n)/\T W K.rb (v*2) (U (g.lo:Int))/\T W K.rb (v*2+1) (U (g.hi:Int)))/\T W w.heap.size 0 (U (a.lo:Int))/\T W w.heap.size 1 (U (a.hi:Int)) from fun W hb=>⟨HC.out W (j.out.1.trans (hb.mono (Qd j.out.2.2))),zA (zH hb j.out.2.1 (lt_of_block j.out.2.1)) rfl,zA (zH hb j.out.2.1 (lt_of_block j.out.2.1)) rfl⟩);obtain⟨⟨c0,c1,c2⟩,x0,x1⟩:=a2.out Y (Below.refl _ _);obtain⟨b0,e0⟩:∃b,((a.lo:Int)==(g.lo:Int))=b:=⟨_,rfl⟩
  obtain⟨b1,e1⟩:∃b,((a.hi:Int)==(g.hi:Int))=b:=⟨_,rfl⟩
  have m:=b3.out;rw[e0,e1] at m;clear b3;cases b0<;>cases b1
  all_goals first|(cases m;done)|skip
  all_goals clear m
  all_goals go_region_held3 (fun w'=>(T w' K.sb 8 (.slice (some ⟨K.rb,0,none⟩) K.n K.n)/\T w' K.rb (v*2) (U (g.lo:Int))/\T w' K.rb (v*2+1) (U (g.hi:Int)))/\T w' w.heap.size 0 (U (a.lo:Int))/\T w' w.heap.size 1 (U (a.hi:Int)))
   ((refine a2.out _ ?_;repeat' (first|with_reducible exact Below.refl _ _|with_reducible assumption|with_reducible refine Below.drew ?_)))
   (fail)
  all_goals clear c0 c1 c2 x0 x1 a2 e0 e1
  all_goals have s10:=HK.out Y.drew j.out.1.drew
  all_goals go_upto_region 7 with(go_at_call 999999;skip)
  all_goals (
   obtain⟨X,q⟩:∃X,Y.drew=X:=⟨_,rfl⟩
   have b2:=Ja (show O w X/\L X w.heap.size #[U (a.lo:Int),U (a.hi:Int)] 45/\w.heap.size<X.heap.size from by rw[<-q];exact⟨j.out.1.drew,j.out.2.1,j.out.2.2⟩);rw[q];clear q s10 c;have c:=b2;clear b2;have d:=Ja (H.out.1.below c.out.1);have HC:=Ja (show ∀W:World,W.heap[K.sb]? =X.heap[K.sb]?->W.heap[w.heap.size]? =X.heap[w.heap.size]?->T W K.sb 8 (.slice (some ⟨K.rb,0,none⟩) K.n K.n)/\T W K.sb 9 (.slice (some ⟨K.kb,0,none⟩) K.n K.n)/\T W w.heap.size 0 (U (a.lo:Int))/\T W w.heap.size 1 (U (a.hi:Int)) from fun W h1 h2=>⟨zA (h1.trans d.out.cell) rfl,zA (h1.trans d.out.cell) rfl,zA (h2.trans c.out.2.1) rfl,zA (h2.trans c.out.2.1) rfl⟩);obtain⟨c0,c1,c2,c3⟩:=HC.out X rfl rfl;have kx:=qf d.out hv;have kf:=zE (i:=v) d.out.kn;obtain⟨r0,r1⟩:=d.out.rcell (v:=(v:Int)) Zo;rw[Ni] at r0 r1;have b7:=zE (i:=v*2) d.out.row;have b6:=zE (i:=v*2+1) d.out.row;have m1:=lt_of_block d.out.cell;have m2:=lt_of_block d.out.row;have m3:=lt_of_block d.out.kn;have m4:=c.out.2.2;go_region_held3 (fun w'=>T w' K.sb 8 (.slice (some ⟨K.rb,0,none⟩) K.n K.n)/\T w' K.sb 9 (.slice (some ⟨K.kb,0,none⟩) K.n K.n)/\T w' w.heap.size 0 (U (a.lo:Int))/\T w' w.heap.size 1 (U (a.hi:Int))) ((refine HC.out _ ?_ ?_<;>(repeat' (first|(rw[Below.heap_setCell _ _ _ _ (by first|(show K.sb≠K.kb;omega)|(show K.sb≠K.rb;omega)|(show w.heap.size≠K.kb;omega)|(show w.heap.size≠K.rb;omega))])|(rw[show ∀v:World,v.drew.heap=v.heap from fun _=>rfl])|exact rfl)))) (fail);go_wp2;obtain⟨W,y⟩:∃W,((X.setCell ⟨K.kb,v,none⟩ (.bool true)).setCell ⟨K.rb,v*2,none⟩ (U (a.lo:Int))).setCell ⟨K.rb,v*2+1,none⟩ (U (a.hi:Int))=W:=⟨_,rfl⟩
   rw[y];obtain⟨j1,j2⟩:=d.out.put hv H.out.2 y;go_ret
   exact⟨rfl,j1.below (Below.refl _ _).drew,((SlvTo.of_below c.out.1).trans j2).trans (SlvTo.of_below (Below.refl _ _).drew)⟩)
 exact zS.nil
theorem afu{K:SK}{p:IProg}{b5:List IBlk}{s:Slv}(h:SlvAt w K p b5 k s){v:Nat}(hv:v<K.n)(hk:4<k)(a9:s.knw v=true)(l:lf (sq a0 (s.get v)) (s.get v)=false):
 A 38 #[Q K.sb,I v,.agg #[U (a0.lo:Int),U (a0.hi:Int)]] w (j5 w K p b5 k (s.put v y7,true)):=by
 have a8:=qf h hv;rw[a9] at a8;have x:=fun(W:World) (hW:O w W)=>(h.below hW).rcell (v:=(v:Int)) Zo
 generalize hg:s.get (v:Int)=g at *;obtain⟨q,hq⟩:∃q,sq a0 g=q:=⟨_,rfl⟩
 have HH:=Ja (fun W=>afj W a0 g);rw[hq] at HH l;obtain⟨a,hz⟩:∃a,y7=a:=⟨_,rfl⟩
 have a7:a.ok:=hz ▸ vu;have HZ:=Ja hz;rw[hz];have c7:(4:Int)<(k:Int):=Zo;have c5:=h.ne
 have a6:(((q.lo:Int)==(g.lo:Int)) && ((q.hi:Int)==(g.hi:Int)))=false:=by
  rw[<-l];unfold lf;rw[Bool.eq_iff_iff];simp only[Jm,beq_iff_eq,decide_eq_true_eq];omega
 rw[Ni] at x;have H:=Ja (Jb h a7);have b2:=fun(W:World) (hW:O w W)=>(h.below hW).cells.2.2.2.2.1
 have HK:=Ja b2;have hn:=h.n64;obtain⟨s4,s7,s8,s9,s10,s6⟩:=h.cells;have HC:=Ja (show ∀W:World,O w W->T W K.sb 8 (.slice (some ⟨K.rb,0,none⟩) K.n K.n)/\T W K.rb (v*2) (U (g.lo:Int))/\T W K.rb (v*2+1) (U (g.hi:Int)) from fun W hb=>⟨(h.below hb).cells.2.2.1,(x W hb).1,(x W hb).2⟩);have l1:=lt_of_block h.cell;have l2:=lt_of_block h.row;have l3:=lt_of_block h.kn;have b7:=Ja a6;clear hz b2 hk a7 h a6 a9 l s4 s7 s6 s8 s10 x hg hq;go_enter Tryz.func38,Tryz.ntmps38;go_upto_region 2 with(go_at_call 999999;skip)
 obtain⟨X,m⟩:∃X,w.alloc (G #[U (a0.lo:Int),U (a0.hi:Int)] 45)=X:=⟨_,rfl⟩
 have c:=Ja (show O w X/\L X w.heap.size #[U (a0.lo:Int),U (a0.hi:Int)] 45/\w.heap.size<X.heap.size from by
  rw[<-m];exact⟨Below.alloc (Below.refl _ _) (Je _) _,zI rfl,by simp⟩)
 rw[m];clear m a8 s9;have a5:=Ja (show ∀W:World,Below w.heap.size X W->T W K.sb 8 (.slice (some ⟨K.rb,0,none⟩) K.n K.n)/\T W K.rb (v*2) (U (g.lo:Int))/\T W K.rb (v*2+1) (U (g.hi:Int)) from fun W hb=>HC.out W (c.out.1.trans hb));obtain⟨c0,c1,c2⟩:=a5.out X (Below.refl _ _);have x0:=zA (i:=0) c.out.2.1 rfl;have x1:=zA (i:=1) c.out.2.1 rfl;have b8:=c.out.2.2;refine wp_region_noPanic ?_;refine yQ (S:=(fun w'=>T w' K.sb 8 (.slice (some ⟨K.rb,0,none⟩) K.n K.n)/\T w' K.rb (v*2) (U (g.lo:Int))/\T w' K.rb (v*2+1) (U (g.hi:Int))/\T w' w.heap.size 0 (U (a0.lo:Int))/\T w' w.heap.size 1 (U (a0.hi:Int)))) 9 Zk ⟨c0,c1,c2,x0,x1⟩ (fun hHeld=>?_);refine Tl 0 ?_
 try simp only[Yp]
 refine Tl 1 ?_
 try simp only[Yp]
 refine Tl 2 ?_
 try simp only[Yp]
 refine Tl 3 ?_
 try simp only[Yp]
 refine Tl 4 ?_
 try simp only[Yp]
 refine Tl 5 ?_
 try simp only[Yp]
 refine Tl 6 ?_
 try simp only[Yp]
 refine Tl 7 ?_
 try simp only[Yp]
 refine z8 (rs:=[8]) Zk Zs ?_;refine zS.cons (o:=_) rfl (fun K hK=>?_) ?_
 ·skip
  (go_simp;refine(HH.out _).mono ?_;rintro e w1 ⟨rfl,b4⟩;have y:O X w1:=(Below.refl X.heap.size X).drew.trans b4;clear b4;have hk:=zH y c.out.2.1 (lt_of_block c.out.2.1);have f0:=zA (i:=0) hk rfl;have f1:=zA (i:=1) hk rfl;have g0:=zE (i:=0) hk;have g1:=zE (i:=1) hk;have a2:=lt_of_block hk;have a1:=a5.out w1 (y.mono (Qd c.out.2.2)))
  refine hK.out _ _ ⟨a1.1,a1.2.1,a1.2.2,f0,f1⟩ (fun hHeld=>?_);clear hK K
  try simp only[Yp]
  refine z8 (rs:=[9]) Zk Zs ?_;refine zS.last (o:=_) rfl (fun K hK=>?_);go_simp;refine hK.out _ _ ?_;clear hK K
  try simp only[Yp]
  refine xj Zk (NoPanic.normal ?_) _;go_upto_region 3 with(go_at_call 999999;skip)
  obtain⟨Y,hY⟩:∃Y,(w1.setCell ⟨w.heap.size,0,none⟩ (U (q.lo:Int))).setCell ⟨w.heap.size,1,none⟩ (U (q.hi:Int))=Y:=⟨_,rfl⟩
  have j:=Ja (show O w Y/\L Y w.heap.size #[U (q.lo:Int),U (q.hi:Int)] 45/\w.heap.size<Y.heap.size from by
   have t:=zD (i:=1) (zD (i:=0) hk (U (q.lo:Int))) (U (q.hi:Int));rw[hY] at t
   exact⟨by rw[<-hY];exact((c.out.1.trans (y.mono (Qd c.out.2.2))).setCell (Je _) _).setCell (Je _) _,t,lt_of_block t⟩)
  rw[hY];clear hY hk f0 f1 g0 g1 a2 y a1 a5 c0 c1 c2 x0 x1 b8;have a4:=Ja (show ∀W:World,O Y W->(T W K.sb 8 (.slice (some ⟨K.rb,0,none⟩) K.n K.n)/\T W K.rb (v*2) (U (g.lo:Int))/\T W K.rb (v*2+1) (U (g.hi:Int)))/\T W w.heap.size 0 (U (q.lo:Int))/\T W w.heap.size 1 (U (q.hi:Int)) from fun W hb=>⟨HC.out W (j.out.1.trans (hb.mono (Qd j.out.2.2))),zA (zH hb j.out.2.1 (lt_of_block j.out.2.1)) rfl,zA (zH hb j.out.2.1 (lt_of_block j.out.2.1)) rfl⟩);obtain⟨⟨c0,c1,c2⟩,x0,x1⟩:=a4.out Y (Below.refl _ _);obtain⟨b0,e0⟩:∃b,((q.lo:Int)==(g.lo:Int))=b:=⟨_,rfl⟩
  obtain⟨b1,e1⟩:∃b,((q.hi:Int)==(g.hi:Int))=b:=⟨_,rfl⟩
  have u:=b7.out;rw[e0,e1] at u;clear b7;cases b0<;>cases b1
  all_goals first|(cases u;done)|skip
  all_goals clear u
  all_goals go_region_held3 (fun w'=>(T w' K.sb 8 (.slice (some ⟨K.rb,0,none⟩) K.n K.n)/\T w' K.rb (v*2) (U (g.lo:Int))/\T w' K.rb (v*2+1) (U (g.hi:Int)))/\T w' w.heap.size 0 (U (q.lo:Int))/\T w' w.heap.size 1 (U (q.hi:Int)))
   ((refine a4.out _ ?_;repeat' (first|with_reducible exact Below.refl _ _|with_reducible assumption|with_reducible refine Below.drew ?_)))
   (fail)
  all_goals clear c0 c1 c2 x0 x1 a4 e0 e1
  all_goals have s10:=HK.out Y.drew j.out.1.drew
  all_goals have HV:=Ja (show O w Y.drew/\L Y.drew w.heap.size #[U (q.lo:Int),U (q.hi:Int)] 45/\w.heap.size<Y.drew.heap.size from⟨j.out.1.drew,j.out.2.1,j.out.2.2⟩)
  all_goals go_upto_region 7 with(go_at_call 39;go_must (refine(m0 _).mono ?_;rintro e w2 ⟨rfl,a3⟩;have hk:=zH a3 HV.out.2.1 HV.out.2.2;have f0:=zA (i:=0) hk rfl;have f1:=zA (i:=1) hk rfl;have g0:=zE (i:=0) hk;have g1:=zE (i:=1) hk;have a2:=lt_of_block hk;have b3:=HV.out.1.trans (a3.mono HV.out.1.size)))
  all_goals (
   obtain⟨X,m⟩:∃X,(w2.setCell ⟨w.heap.size,0,none⟩ (U 0)).setCell ⟨w.heap.size,1,none⟩ (U 65535)=X:=⟨_,rfl⟩
   have b6:=Ja (show O w X/\L X w.heap.size #[U (a.lo:Int),U (a.hi:Int)] 45/\w.heap.size<X.heap.size from by
    have t:=zD (i:=1) (zD (i:=0) hk (U 0)) (U 65535);rw[m] at t;refine⟨by rw[<-m];exact(b3.setCell (Je _) _).setCell (Je _) _,?_,lt_of_block t⟩;rw[<-HZ.out]
    exact t)
   rw[m];clear m s10 c hk f0 f1 g0 g1 a2 b3 a3;have c:=b6;clear b6;have d:=Ja (H.out.1.below c.out.1);have HC:=Ja (show ∀W:World,W.heap[K.sb]? =X.heap[K.sb]?->W.heap[w.heap.size]? =X.heap[w.heap.size]?->T W K.sb 8 (.slice (some ⟨K.rb,0,none⟩) K.n K.n)/\T W K.sb 9 (.slice (some ⟨K.kb,0,none⟩) K.n K.n)/\T W w.heap.size 0 (U (a.lo:Int))/\T W w.heap.size 1 (U (a.hi:Int)) from fun W h1 h2=>⟨zA (h1.trans d.out.cell) rfl,zA (h1.trans d.out.cell) rfl,zA (h2.trans c.out.2.1) rfl,zA (h2.trans c.out.2.1) rfl⟩);obtain⟨c0,c1,c2,c3⟩:=HC.out X rfl rfl;have kx:=qf d.out hv;have kf:=zE (i:=v) d.out.kn;obtain⟨r0,r1⟩:=d.out.rcell (v:=(v:Int)) Zo;rw[Ni] at r0 r1;have c4:=zE (i:=v*2) d.out.row;have b9:=zE (i:=v*2+1) d.out.row;have m1:=lt_of_block d.out.cell;have m2:=lt_of_block d.out.row;have m3:=lt_of_block d.out.kn;have m4:=c.out.2.2;go_region_held3 (fun w'=>T w' K.sb 8 (.slice (some ⟨K.rb,0,none⟩) K.n K.n)/\T w' K.sb 9 (.slice (some ⟨K.kb,0,none⟩) K.n K.n)/\T w' w.heap.size 0 (U (a.lo:Int))/\T w' w.heap.size 1 (U (a.hi:Int))) ((refine HC.out _ ?_ ?_<;>(repeat' (first|(rw[Below.heap_setCell _ _ _ _ (by first|(show K.sb≠K.kb;omega)|(show K.sb≠K.rb;omega)|(show w.heap.size≠K.kb;omega)|(show w.heap.size≠K.rb;omega))])|(rw[show ∀v:World,v.drew.heap=v.heap from fun _=>rfl])|exact rfl)))) (fail);go_wp2;obtain⟨W,hW⟩:∃W,((X.setCell ⟨K.kb,v,none⟩ (.bool true)).setCell ⟨K.rb,v*2,none⟩ (U (a.lo:Int))).setCell ⟨K.rb,v*2+1,none⟩ (U (a.hi:Int))=W:=⟨_,rfl⟩
   rw[hW];obtain⟨j1,j2⟩:=d.out.put hv H.out.2 hW;go_ret
   exact⟨rfl,j1.below (Below.refl _ _).drew,((SlvTo.of_below c.out.1).trans j2).trans (SlvTo.of_below (Below.refl _ _).drew)⟩)
 exact zS.nil
theorem agb{K:SK}{p:IProg}{i:List IBlk}{s:Slv}(h:SlvAt w K p i k s){v:Nat}(hv:v<K.n){a:Rg}(l:a.ok)(j:(sq a (s.get v)).ok):
 A 38 #[Q K.sb,I v,.agg #[U (a.lo:Int),U (a.hi:Int)]] w (j5 w K p i k (setF k s v a)):=by
 unfold setF
 by_cases c:s.knw v=true
 ·rw[if_pos c]
  by_cases hs:lf (sq a (s.get v)) (s.get v)=true
  ·rw[if_pos hs];exact ahI h hv c hs
  ·rw[if_neg hs];have g:lf (sq a (s.get v)) (s.get v)=false:=by simpa using hs
   unfold ahF
   by_cases hk:4<k
   ·rw[if_pos hk];exact afu h hv hk c g
   ·rw[if_neg hk];exact set_more h hv j hk c g
 ·rw[if_neg c];have d:s.knw v=false:=by simpa using c
  unfold ahF
  by_cases hk:4<k
  ·rw[if_pos hk];exact afR h hv hk d
  ·rw[if_neg hk];exact set_new h hv l hk d
def BlkOp (n:Nat)(p:IProg)(o:IOp):Prop:=0<=o.res->agJ n o/\(o.code=2->0<=o.a/\o.a<p.data.length)/\(o.code≠1->o.code≠2->ruG o.code≠none->(0<=o.a/\o.a<n)/\0<=o.b/\o.b<n)
def BlkEdge (n:Nat)(bls:List IBlk)(e:IEdge):Prop:=(0<=e.block/\e.block<bls.length)/\e.args.length=(xz bls e.block).params.length/\(∀x∈e.args,0<=x/\x<n)/\∀x∈(xz bls e.block).params,0<=x/\x<n
structure BlkW (n:Nat) (p:IProg) (bls:List IBlk) (b:IBlk):Prop where
 ops:∀o∈b.ops,BlkOp n p o
 tos:∀e∈b.term.to,BlkEdge n bls e
theorem SlvTo.blk{K:SK}(h:SlvTo w w' K){b:Nat}{o:_}(hb:w.heap[b]? =some o)(d:b<w.heap.size)(c:b≠K.rb/\b≠K.kb/\b≠K.sb):w'.heap[b]? =some o:=(h.block b d c.1 c.2.1 c.2.2).trans hb
theorem SlvAt.fresh{K:SK}{p:IProg}{s:Slv}(h:SlvAt w K p c k s){b:Nat}(hb:w.heap.size<=b):b≠K.rb/\b≠K.kb/\b≠K.sb:=by
 have:=lt_of_block h.row;have:=lt_of_block h.kn;have:=lt_of_block h.cell;omega
theorem SlvAt.keepB{K:SK}{p:IProg}{s:Slv}(h:SlvAt w K p c k s)(ht:SlvTo w w' K):Below K.B w w':=
 ht.below ⟨h.lt.2.1,h.lt.2.2.1,h.lt.1,Qd (Nat.lt_of_le_of_lt h.lt.1 (lt_of_block h.cell))⟩
theorem xe{α β:Type}{f:β->α->β}{l:List α}{x:α}(h:l[k]? =some x)(b:β):(l.take (k+1)).foldl f b=f ((l.take k).foldl f b) x:=by
 rw[Nh,h,List.foldl_append];rfl
theorem agV{K:SK}{p:IProg}{g:List IBlk}{s:Slv}(h:SlvAt w K p g k s){i:Nat}{bx:IBlk}(b9:g[i]? =some bx)(f4:BlkW K.n p g bx):
 A 42 #[Q K.sb,I i] w (j5 w K p g k (afV p g k (s,false) bx)):=by
 obtain⟨fa,fc,b8,k5,k4⟩:=h.blks.form;have a7:=h.blks;rw[b8] at a7;obtain⟨bb,bo,rfl,k6,g2,g3,h64,pv,ov,tv,g0,g1,g4,a0,b4,b2⟩:=a7.get b9;obtain⟨pa,pc,rfl,j2,j1⟩:=a0.form;obtain⟨oa,oc,rfl,k0,m3⟩:=b4.form;obtain⟨ta,tc,rfl,i0,l4⟩:=b2.form;have n0:=(Jh.1 b9).1;have m4:bx.ops.length<=9223372036854775807:=Zo;have l5:bx.term.to.length<=9223372036854775807:=Zo;have c6:=h.cells.2.2.2.2.2;rw[b8] at c6;have f2:=lt_of_block h.cell;have l1:bb<w.heap.size:=Jy k6 (Qd (Nat.lt_of_le_of_lt h.lt.1 f2));obtain⟨X,hX⟩:∃X,w.alloc (G #[.slice pa bx.params.length pc,.slice oa bx.ops.length oc,I bx.term.kind,I bx.term.a,.slice ta bx.term.to.length tc] 84)=X:=⟨_,rfl⟩
 have a5:O w X:=by rw[<-hX];exact(Below.refl _ _).alloc (Je _) _
 have c1:L X w.heap.size #[.slice pa bx.params.length pc,.slice oa bx.ops.length oc,I bx.term.kind,I bx.term.a,.slice ta bx.term.to.length tc] 84:=by rw[<-hX];exact zI rfl
 have hB:K.B<=w.heap.size:=Qd (Nat.lt_of_le_of_lt h.lt.1 f2)
 have HX:=Ja (show SlvAt X K p g k s/\SlvTo w X K/\L X w.heap.size #[.slice pa bx.params.length pc,.slice oa bx.ops.length oc,I bx.term.kind,I bx.term.a,.slice ta bx.term.to.length tc] 84/\mN X K.B (.slice oa bx.ops.length oc) bx.ops/\wH X K.B (.slice ta bx.term.to.length tc) bx.term.to/\O w X/\w.heap.size<X.heap.size/\K.B<=w.heap.size from
  ⟨h.below a5,SlvTo.of_below a5,c1,b4.below xA (a5.mono hB),b2.below xL (a5.mono hB),a5,lt_of_block c1,hB⟩)
 have HW:=Ja (Jb h (Jb f4 (Jb b9 b8)));have m1:=k4;obtain⟨t6,f1⟩:∃t6,w.heap.size=t6:=⟨_,rfl⟩
 clear h f4 b9 b8 a7 h64 a0 b4 b2 a5 c1 k5 j2 j1 k0 i0 hB;go_enter Tryz.func42,Tryz.ntmps42;go_upto_region 3 with fail;clear hX c6 g0 g1 g2 g3 g4;rw[f1] at HX;have d1:T X t6 1 (.slice oa bx.ops.length oc):=zA HX.out.2.2.1 rfl;go_wp2;clear d1
 go_loopw [5,24] (fun cv jv wx=>∃(j:Nat) (s':Slv) (c:Bool),j<=bx.ops.length/\cv=.bool c/\jv=I j/\Hid ((bx.ops.take j).foldl (opS p k) (s,false)=(s',c)/\SlvAt wx K p g k s'/\SlvTo X wx K)) (fun _ jv _=>bx.ops.length-(intOf jv).toNat)
 case atStart=>exact⟨0,s,false,Jt _,rfl,rfl,Ja ⟨rfl,HX.out.1,SlvTo.refl _ _⟩⟩
 case round=>
  obtain⟨j,s',c,hj,rfl,rfl,l⟩:=hrel
  by_cases y:j<bx.ops.length
  ·have b5:(j:Int)<(bx.ops.length:Int):=Zo;obtain⟨o,ho⟩:∃o,bx.ops[j]? =some o:=⟨_,Jd y⟩
   have t:Below K.B X wr:=HX.out.1.keepB l.out.2.2;obtain⟨qb,qo,c9,a9,e0,e1,e2,e3,e4,h64,av,e5,a6⟩:=(HX.out.2.2.2.1.below xA t).get ho;obtain⟨aa,ac,rfl,_,_⟩:=a6.form;subst c9;have c7:qb<wr.heap.size:=Jy a9 (Jn HX.out.2.2.2.2.2.2.2 (Jn (Qd HX.out.2.2.2.2.2.2.1) t.size));obtain⟨Y,hY⟩:∃Y,wr.alloc (G (D o aa ac) 76)=Y:=⟨_,rfl⟩
   have a1:O wr Y:=by rw[<-hY];exact(Below.refl _ _).alloc (Je _) _
   have a3:L Y wr.heap.size (D o aa ac) 76:=by rw[<-hY];exact zI rfl
   have d:=Ja (show SlvAt Y K p g k s'/\SlvTo X Y K/\L Y wr.heap.size (D o aa ac) 76/\wr.heap.size≠K.rb/\wr.heap.size≠K.kb/\wr.heap.size≠K.sb from⟨l.out.2.1.below a1,l.out.2.2.trans (SlvTo.of_below a1),a3,l.out.2.1.fresh (Je _)⟩);have HO:=Ja (Jb ho (Jb h64 (HW.out.2.1.ops o (Ji ho))));have a2:=Ja y;clear ho h64 a6 t a1 a3 y;go_upto_region 6 with fail;clear hY e0 e1 e2 e3 e4 e5 c7 a9;obtain⟨t8,i1⟩:∃t8,wr.heap.size=t8:=⟨_,rfl⟩
   rw[i1] at d ⊢;have z0:T Y t8 0 (I o.code):=zA d.out.2.2.1 rfl;have z1:T Y t8 1 (I o.res):=zA d.out.2.2.1 rfl;have z2:T Y t8 2 (I o.a):=zA d.out.2.2.1 rfl;have z3:T Y t8 3 (I o.b):=zA d.out.2.2.1 rfl;have z4:T Y t8 4 (U (o.n:Int)):=zA d.out.2.2.1 rfl;have z5:T Y t8 5 (.slice aa o.args.length ac):=zA d.out.2.2.1 rfl
   by_cases hr:0<=o.res
   ·have i9:decide (0<=o.res)=true:=decide_eq_true hr;obtain⟨a,ha⟩:∃a,i4 p s' o=a:=⟨_,rfl⟩
    obtain⟨s2,r,hq⟩:∃s2 r,setF k s' o.res a=(s2,r):=⟨_,_,rfl⟩
    obtain⟨c5,d0,f7⟩:=HO.out.2.2 hr;have u:a.ok:=by rw[<-ha];exact agB d.out.1.oks c5 hr
    have b7:(sq a (s'.get o.res)).ok:=aeE u (d.out.1.oks.get _)
    have k9:=Ja (show ∀W,O Y W->A 96 #[Q K.sb,.agg (D o aa ac)] W (re W a) from fun W hb=>by
     rw[<-ha];exact agG (d.out.1.below hb) (.slice aa o.args.length ac) HO.out.2.1.1 HO.out.2.1.2.2.2.2 d0 f7)
    have d7:=Ja (show ∀W,SlvAt W K p g k s'->A 38 #[Q K.sb,I o.res,.agg #[U (a.lo:Int),U (a.hi:Int)]] W (j5 W K p g k (s2,r)) from fun W hb=>by
     have:=agb hb (v:=o.res.toNat) ((c5 hr).1) u (by rw[Oa hr];exact b7);rw[Oa hr,hq] at this
     exact this)
    have HQ:=Ja (Jb hq (Jb ha hr));clear hq ha c5 d0 f7 u b7;have HC:=Ja (show ∀w':World,w'.heap[t8]? =Y.heap[t8]?->T w' t8 0 (I o.code)/\T w' t8 1 (I o.res)/\T w' t8 2 (I o.a)/\T w' t8 3 (I o.b)/\T w' t8 4 (U (o.n:Int))/\T w' t8 5 (.slice aa o.args.length ac) from fun W h=>⟨zA (h.trans d.out.2.2.1) rfl,zA (h.trans d.out.2.2.1) rfl,zA (h.trans d.out.2.2.1) rfl,zA (h.trans d.out.2.2.1) rfl,zA (h.trans d.out.2.2.1) rfl,zA (h.trans d.out.2.2.1) rfl⟩);have f5:=lt_of_block d.out.2.2.1;cases r
    all_goals go_region_held3 (fun w'=>T w' t8 0 (I o.code)/\T w' t8 1 (I o.res)/\T w' t8 2 (I o.a)/\T w' t8 3 (I o.b)/\T w' t8 4 (U (o.n:Int))/\T w' t8 5 (.slice aa o.args.length ac))
     ((refine HC.out _ ?_;first|exact rfl|exact k3|exact k2))
     ((first
       |(go_at_call 96;refine(k9.out _ (by repeat' (first|with_reducible exact Below.refl _ _|with_reducible refine Below.drew ?_))).mono ?_;rintro e w1 ⟨rfl,f6⟩;have d6:Below Y.heap.size Y w1:=Below.trans (show Below Y.heap.size Y _ from by repeat' (first|with_reducible exact Below.refl _ _|with_reducible refine Below.drew ?_)) (f6.mono (Je _));clear f6;have k3:w1.heap[t8]? =Y.heap[t8]?:=d6.block _ f5)
       |(go_at_call 38;refine(d7.out _ (d.out.1.below (by repeat' (first|with_reducible exact d6|with_reducible refine Below.drew ?_)))).mono ?_;rintro e w2 ⟨rfl,a4,a8⟩;have c4:SlvTo Y w2 K:=SlvTo.trans (SlvTo.of_below (show Below Y.heap.size Y _ from by repeat' (first|with_reducible exact d6|with_reducible refine Below.drew ?_))) a8;have k2:w2.heap[t8]? =Y.heap[t8]?:=c4.block _ f5 d.out.2.2.2.1 d.out.2.2.2.2.1 d.out.2.2.2.2.2;have H2:=Ja (Jb a4 c4);clear a4 a8 c4)))
    all_goals clear z0 z1 z2 z3 z4 z5
    all_goals go_wp2_with fail
    all_goals (
     go_roundw
     case rel=>exact⟨j+1,s2,_,a2.out,by first|rfl|(cases c<;>rfl),by go_num,Ja ⟨by rw[xe HO.out.1,l.out.1];unfold opS;rw[if_pos HQ.out.2.2];unfold m7;rw[show i4 p (s',c).1 o=a from HQ.out.2.1,HQ.out.1];first|rw[Bool.or_true]|rw[Bool.or_false],H2.out.1.below (by first|exact Below.refl _ _|exact(Below.refl _ _).drew),d.out.2.1.trans (H2.out.2.trans (SlvTo.of_below (by first|exact Below.refl _ _|exact(Below.refl _ _).drew)))⟩⟩
     case measure=>(try have h1:=a2.out);(try have h2:=b1.out);simp[intOf];omega)
   ·have i9:decide (0<=o.res)=false:=decide_eq_false hr;go_quiet (fail);go_wp2;go_roundw
    case rel=>exact⟨j+1,s',c,a2.out,rfl,by go_num,Ja ⟨by rw[xe HO.out.1,l.out.1];unfold opS;rw[if_neg hr],d.out.1.below (by first|exact Below.refl _ _|exact yC (Below.refl _ _)),d.out.2.1.trans (SlvTo.of_below (by first|exact Below.refl _ _|exact yC (Below.refl _ _)))⟩⟩
    case measure=>(try have h1:=a2.out);(try have h2:=b1.out);simp[intOf];omega
  ·obtain rfl:j=bx.ops.length:=by omega
   have b5:¬(bx.ops.length:Int)<(bx.ops.length:Int):=Zo;have e8:=l.out.2.2.blk HX.out.2.2.1 HX.out.2.2.2.2.2.2.1 (by rw[<-f1];exact HW.out.1.fresh (Je _));have d4:T wr t6 4 (.slice ta bx.term.to.length tc):=zA e8 rfl;have HF:=Ja (show bx.ops.foldl (opS p k) (s,false)=(s',c) by have:=l.out.1;rw[Nl] at this;exact this);have e6:=Ja l.out.2;clear e8 hj y l;go_wp2;clear d4
   go_loopw [5,45] (fun cv jv wx=>∃(j:Nat) (s2:Slv) (c2:Bool),j<=bx.term.to.length/\cv=.bool c2/\jv=I j/\Hid ((bx.term.to.take j).foldl (ahr g k) (s',c)=(s2,c2)/\SlvAt wx K p g k s2/\SlvTo X wx K)) (fun _ jv _=>bx.term.to.length-(intOf jv).toNat)
   case atStart=>exact⟨0,s',c,Jt _,rfl,rfl,Ja ⟨rfl,e6.out.1,e6.out.2⟩⟩
   case round=>
    clear e6;obtain⟨j,s2,c2,hj,rfl,rfl,l⟩:=hrel
    by_cases y:j<bx.term.to.length
    ·have b5:(j:Int)<(bx.term.to.length:Int):=Zo;obtain⟨e,he⟩:∃e,bx.term.to[j]? =some e:=⟨_,Jd y⟩
     have t:Below K.B X wr:=HX.out.1.keepB l.out.2.2;obtain⟨qb,qo,c9,a9,e0,h64,av,e1,a6⟩:=(HX.out.2.2.2.2.1.below xL t).get he;obtain⟨aa,ac,rfl,k7,n2⟩:=a6.form;have n3:e.args.length<=9223372036854775807:=Zo;subst c9;have c7:qb<wr.heap.size:=Jy a9 (Jn HX.out.2.2.2.2.2.2.2 (Jn (Qd HX.out.2.2.2.2.2.2.1) t.size));obtain⟨Y,hY⟩:∃Y,wr.alloc (G #[I e.block,.slice aa e.args.length ac] 79)=Y:=⟨_,rfl⟩
     have a1:O wr Y:=by rw[<-hY];exact(Below.refl _ _).alloc (Je _) _
     have a3:L Y wr.heap.size #[I e.block,.slice aa e.args.length ac] 79:=by rw[<-hY];exact zI rfl
     have f8:K.B<=wr.heap.size:=Qd (Nat.lt_of_le_of_lt l.out.2.1.lt.1 (lt_of_block l.out.2.1.cell));have d:=Ja (show SlvAt Y K p g k s2/\SlvTo X Y K/\L Y wr.heap.size #[I e.block,.slice aa e.args.length ac] 79/\(wr.heap.size≠K.rb/\wr.heap.size≠K.kb/\wr.heap.size≠K.sb)/\zY Y K.B (.slice aa e.args.length ac) e.args/\wr.heap.size<Y.heap.size from⟨l.out.2.1.below a1,l.out.2.2.trans (SlvTo.of_below a1),a3,l.out.2.1.fresh (Je _),a6.below zO (a1.mono f8),lt_of_block a3⟩);have HO:=Ja (Jb he (HW.out.2.1.tos e (Ji he)));have a2:=Ja y;clear he h64 a6 t a1 a3 y k7 f8;go_upto_region 12 with fail;clear hY e0 e1 c7 a9;obtain⟨t10,f9⟩:∃t10,wr.heap.size=t10:=⟨_,rfl⟩
     rw[f9] at d ⊢;have z1:T Y t10 1 (.slice aa e.args.length ac):=zA d.out.2.2.1 rfl;obtain⟨eb,d3⟩:∃eb:Nat,e.block=eb:=⟨e.block.toNat,by have:=HO.out.2.1;omega⟩
     obtain⟨bq,c0⟩:∃bq,g[eb]? =some bq:=⟨_,Jd (by have:=HO.out.2.1;omega)⟩
     have b6:xz g e.block=bq:=by rw[d3];exact zf c0
     have b3:=HO.out.2.2;rw[b6] at b3;have n1:eb<g.length:=(Jh.1 c0).1;have HE:=Ja (Jb b3 (Jb b6 c0));have l0:=Ja d3;clear b3 b6 c0 d3;go_wp2;clear z1
     go_loopw [5,52] (fun cv jv wx=>∃(m:Nat) (s3:Slv) (c3:Bool),m<=e.args.length/\cv=.bool c3/\jv=I m/\Hid (((bq.params.zip e.args).take m).foldl (ah1 k) (s2,c2)=(s3,c3)/\SlvAt wx K p g k s3/\SlvTo Y wx K)) (fun _ jv _=>e.args.length-(intOf jv).toNat)
     case atStart=>exact⟨0,s2,c2,Jt _,rfl,rfl,Ja ⟨rfl,d.out.1,SlvTo.refl _ _⟩⟩
     case round=>
      obtain⟨m,s3,c3,hm,rfl,rfl,q⟩:=hrel
      by_cases b0:m<e.args.length
      ·have k1:(m:Int)<(e.args.length:Int):=Zo;obtain⟨x,hx⟩:∃x,e.args[m]? =some x:=⟨_,Jd b0⟩
       obtain⟨v,hv⟩:∃v,bq.params[m]? =some v:=⟨_,Jd (by rw[<-HE.out.1.1];exact b0)⟩
       have hz:(bq.params.zip e.args)[m]? =some (v,x):=List.getElem?_zip_eq_some.2 ⟨hv,hx⟩;have e7:=HE.out.1.2.1 x (Ji hx);have h7:=HE.out.1.2.2 v (Ji hv);have t:Below K.B Y wr:=d.out.1.keepB q.out.2.2;obtain⟨xb,xo,h5,h6,xc,_⟩:=(d.out.2.2.2.2.1.below zO t).get hx;subst h5;have d5:=q.out.2.1.blks;rw[HW.out.2.2.2] at d5;obtain⟨ub,uo,f0,h9,_,_,_,pv,_,_,u0,_,_,a0,_,_⟩:=d5.get HE.out.2.2;simp only[Option.some.injEq,Addr.mk.injEq,and_true] at f0;obtain⟨rfl,rfl⟩:=f0;obtain⟨ya,yc,rfl,g6,l2⟩:=a0.form;obtain⟨yb,yo,g8,h4,y0,_⟩:=a0.get hv;subst g8;rw[Nk] at xc y0;obtain⟨xn,rfl⟩:∃xn:Nat,x=xn:=⟨x.toNat,by omega⟩
       obtain⟨vn,rfl⟩:∃vn:Nat,v=vn:=⟨v.toNat,by omega⟩
       obtain⟨r0,r1⟩:=q.out.2.1.rcell e7;rw[Ni] at r0 r1;obtain⟨a,ha⟩:∃a,s3.get (xn:Int)=a:=⟨_,rfl⟩
       rw[ha] at r0 r1;have u:a.ok:=by rw[<-ha];exact q.out.2.1.oks.get _
       obtain⟨s4,r,hq⟩:∃s4 r,setF k s3 (vn:Int) a=(s4,r):=⟨_,_,rfl⟩
       have h8:vn<K.n:=Zo;have l3:xn<K.n:=Zo
       have d7:=Ja (show ∀W,SlvAt W K p g k s3->A 38 #[Q K.sb,I vn,.agg #[U (a.lo:Int),U (a.hi:Int)]] W (j5 W K p g k (s4,r)) from fun W hb=>by
        have:=agb hb h8 u (aeE u (hb.oks.get _));rw[hq] at this
        exact this)
       have f3:bq.params.length=e.args.length:=HE.out.1.1.symm;have c6:=q.out.2.1.cells.2.2.2.2.2;rw[HW.out.2.2.2] at c6;have c8:=q.out.2.1.cells.2.2.1;have d2:=q.out.2.2.blk d.out.2.2.1 d.out.2.2.2.2.2 d.out.2.2.2.1;have z0:T wr t10 0 (I eb):=by rw[<-l0.out];exact zA d2 rfl
       have m5:=q.out.2.1.n64;have m2:m<bq.params.length:=Zo;have HQ:=Ja (Jb hq (Jb ha (Jb hz f3)));have i2:=lt_of_block q.out.2.1.cell;have a4:=lt_of_block q.out.2.1.row;have n4:K.B<=wr.heap.size:=Qd (Nat.lt_of_le_of_lt q.out.2.1.lt.1 i2);have l9:xb<wr.heap.size:=Zo;have l8:bb<wr.heap.size:=Zo;have l7:yb<wr.heap.size:=Zo;have b1:=Ja b0;clear hq ha hz hx hv f3 d5 a0 t d2 g6 u e7 h7 h6 h9 h4 b0;go_upto_region 15 with fail;refine zt 21 Zk Zk ?_;simp only[Qo,Uc,Qp,Ui]
       repeat (go_big_quiet_step (fail))
       refine wpQuiet_nil ?_;clear z0 c6 c8 y0 u0 xc r0 r1;cases r
       all_goals go_wp2_with (go_at_call 38;go_must (refine(d7.out _ (q.out.2.1.below (Below.refl _ _).drew)).mono ?_;rintro e w2 ⟨rfl,a4,a8⟩;have H2:=Ja (Jb a4 ((SlvTo.of_below (Below.refl wr.heap.size wr).drew).trans a8));clear a4 a8))
       all_goals (
        go_roundw
        case rel=>exact⟨m+1,s4,_,b1.out,by first|rfl|(cases c3<;>rfl),by go_num,Ja ⟨by rw[xe HQ.out.2.2.1,q.out.1];unfold ah1 m7;rw[show(s3,c3).1.get ((vn:Int),(xn:Int)).2=a from HQ.out.2.1,HQ.out.1];first|rw[Bool.or_true]|rw[Bool.or_false],H2.out.1.below (by first|exact Below.refl _ _|exact(Below.refl _ _).drew),q.out.2.2.trans (H2.out.2.trans (SlvTo.of_below (by first|exact Below.refl _ _|exact(Below.refl _ _).drew)))⟩⟩
        case measure=>(try have h1:=a2.out);(try have h2:=b1.out);simp[intOf];omega)
      ·obtain rfl:m=e.args.length:=by omega
       have k1:¬(e.args.length:Int)<(e.args.length:Int):=Zo;clear hm b0;go_wp2;go_roundw
       case rel=>
        refine⟨j+1,s3,c3,a2.out,rfl,by go_num,Ja ⟨?_,q.out.2.1,d.out.2.1.trans q.out.2.2⟩⟩;rw[xe HO.out.1,l.out.1];unfold ahr;rw[HE.out.2.1,<-q.out.1,Oy (by rw[List.length_zip,HE.out.1.1];omega)]
       case measure=>(try have h1:=a2.out);(try have h2:=b1.out);simp[intOf];omega
    ·obtain rfl:j=bx.term.to.length:=by omega
     have b5:¬(bx.term.to.length:Int)<(bx.term.to.length:Int):=Zo;clear hj y;go_wp2;go_ret
     have g5:afV p g k (s,false) bx=(s2,c2):=by
      unfold afV;rw[HF.out,<-l.out.1,Nl]
     rw[g5];exact⟨rfl,l.out.2.1,HX.out.2.1.trans l.out.2.2⟩
def askR (p:IProg)(f:Int):Prop:=vC p=0/\(0<=f/\f.toNat<p.funcs.length)/\p.funcs.getD f.toNat []≠ []
def afO (w:World)(e:Ending)(w':World):Prop:=e=.returned (F)/\O w w'
theorem agL{B:Nat}{V:PV}{p:IProg}(hp:ProgIn w B V p)(hB:B<=w.heap.size)(hs:∀f∈p.funcs,vZ f)(hv:vC p≠0)(f:Int):
 A 15 #[yH V p,I f] w (afO w):=by
 obtain⟨z,h⟩:∃z,vC p=z:=⟨_,rfl⟩
 have g:∀W,O w W->A 35 #[yH V p] W (m9 W z):=fun W hb=>by
  have:=tu (hp.below (hb.mono hB)) (Jn hB hb.size) hs;rw[h] at this;exact this
 rw[h] at hv;have t:(z !=0)=true:=by simpa using hv
 obtain⟨Vf,Va,Vd,Vb⟩:=V;obtain⟨f1,f2,e1,x,u⟩:=hp.funcs.form;have l:Vf=.slice f1 p.funcs.length f2:=e1;subst l;obtain⟨X,k⟩:∃X,w.alloc (G #[.slice f1 p.funcs.length f2,Va,I p.entry,I p.handler,Vd,Vb] 29)=X:=⟨_,rfl⟩;have d:O w X:=by rw[<-k];exact(Below.refl _ _).alloc (Je _) _
 have c:L X w.heap.size #[.slice f1 p.funcs.length f2,Va,I p.entry,I p.handler,Vd,Vb] 29:=by rw[<-k];exact zI rfl
 have o:=Ja (show ∀W,O X W->A 35 #[.agg #[.slice f1 p.funcs.length f2,Va,I p.entry,I p.handler,Vd,Vb]] W (m9 W z) from fun W hb=>g W (d.trans (hb.mono d.size)));have x0:=zA (i:=0) c rfl;have x1:=zA (i:=1) c rfl;have x2:=zA (i:=2) c rfl;have x3:=zA (i:=3) c rfl;have x4:=zA (i:=4) c rfl;have x5:=zA (i:=5) c rfl;have q:=lt_of_block c;have m:=Ja (Jb d c);clear d c;clear hp hB hs hv g h;unfold yH;go_enter Tryz.func15,Tryz.ntmps15;go_wp2_with fail
 go_step3
 go_wp2_with (go_at_call 35;go_must (refine(o.out _ (Below.refl _ _)).mono ?_;rintro e w1 ⟨rfl,j⟩))
 try rw[Exit.noGoto_ret]
 go_ret;exact⟨rfl,m.out.1.trans (j.mono m.out.1.size)⟩
theorem agK{B:Nat}{V:PV}{p:IProg}(hp:ProgIn w B V p)(hB:B<=w.heap.size)(hs:∀f∈p.funcs,vZ f)(hv:vC p=0)(f:Int)(hf:f<0):
 A 15 #[yH V p,I f] w (afO w):=by
 have g:∀W,O w W->A 35 #[yH V p] W (m9 W 0):=fun W hb=>by
  have:=tu (hp.below (hb.mono hB)) (Jn hB hb.size) hs;rw[hv] at this;exact this
 have q:decide (f<0)=true:=decide_eq_true hf;obtain⟨Vf,Va,Vd,Vb⟩:=V;obtain⟨f1,f2,e1,u,t⟩:=hp.funcs.form;have k:Vf=.slice f1 p.funcs.length f2:=e1;subst k;obtain⟨X,j⟩:∃X,w.alloc (G #[.slice f1 p.funcs.length f2,Va,I p.entry,I p.handler,Vd,Vb] 29)=X:=⟨_,rfl⟩;have d:O w X:=by rw[<-j];exact(Below.refl _ _).alloc (Je _) _
 have c:L X w.heap.size #[.slice f1 p.funcs.length f2,Va,I p.entry,I p.handler,Vd,Vb] 29:=by rw[<-j];exact zI rfl
 have m:=Ja (show ∀W,O X W->A 35 #[.agg #[.slice f1 p.funcs.length f2,Va,I p.entry,I p.handler,Vd,Vb]] W (m9 W 0) from fun W hb=>g W (d.trans (hb.mono d.size)));have x0:=zA (i:=0) c rfl;have x1:=zA (i:=1) c rfl;have x2:=zA (i:=2) c rfl;have x3:=zA (i:=3) c rfl;have x4:=zA (i:=4) c rfl;have x5:=zA (i:=5) c rfl;have o:=lt_of_block c;have l:=Ja (Jb d c);clear d c;clear hp hB hs hv g;unfold yH;go_enter Tryz.func15,Tryz.ntmps15;go_wp2_with fail
 go_step3
 go_wp2_with (go_at_call 35;go_must (refine(m.out _ (Below.refl _ _)).mono ?_;rintro e w1 ⟨rfl,h⟩))
 try rw[Exit.noGoto_ret]
 go_ret;exact⟨rfl,l.out.1.trans (h.mono l.out.1.size)⟩
theorem agW{B:Nat}{V:PV}{p:IProg}(hp:ProgIn w B V p)(hB:B<=w.heap.size)(hs:∀f∈p.funcs,vZ f)(hv:vC p=0)(f:Int)(a1:0<=f)(hf:(p.funcs.length:Int)<=f):
 A 15 #[yH V p,I f] w (afO w):=by
 have j:∀W,O w W->A 35 #[yH V p] W (m9 W 0):=fun W hb=>by
  have:=tu (hp.below (hb.mono hB)) (Jn hB hb.size) hs;rw[hv] at this;exact this
 have u:decide (f<0)=false:=decide_eq_false Zo;have t:decide ((p.funcs.length:Int)<=f)=true:=decide_eq_true hf;obtain⟨Vf,Va,Vd,Vb⟩:=V;obtain⟨f1,f2,e1,a0,y⟩:=hp.funcs.form;have o:Vf=.slice f1 p.funcs.length f2:=e1;subst o;obtain⟨X,m⟩:∃X,w.alloc (G #[.slice f1 p.funcs.length f2,Va,I p.entry,I p.handler,Vd,Vb] 29)=X:=⟨_,rfl⟩;have d:O w X:=by rw[<-m];exact(Below.refl _ _).alloc (Je _) _
 have c:L X w.heap.size #[.slice f1 p.funcs.length f2,Va,I p.entry,I p.handler,Vd,Vb] 29:=by rw[<-m];exact zI rfl
 have q:=Ja (show ∀W,O X W->A 35 #[.agg #[.slice f1 p.funcs.length f2,Va,I p.entry,I p.handler,Vd,Vb]] W (m9 W 0) from fun W hb=>j W (d.trans (hb.mono d.size)));have x0:=zA (i:=0) c rfl;have x1:=zA (i:=1) c rfl;have x2:=zA (i:=2) c rfl;have x3:=zA (i:=3) c rfl;have x4:=zA (i:=4) c rfl;have x5:=zA (i:=5) c rfl;have k:=lt_of_block c;have l:=Ja (Jb d c);clear d c;clear hp hB hs hv j;unfold yH;go_enter Tryz.func15,Tryz.ntmps15;go_wp2_with fail
 go_step3
 go_wp2_with (go_at_call 35;go_must (refine(q.out _ (Below.refl _ _)).mono ?_;rintro e w1 ⟨rfl,h⟩;have g:=zH h l.out.2 k;have y0:=zA (i:=0) g rfl;have x:=lt_of_block g))
 try rw[Exit.noGoto_ret]
 go_ret;exact⟨rfl,l.out.1.trans (h.mono l.out.1.size)⟩
theorem aff{B:Nat}{V:PV}{p:IProg}(hp:ProgIn w B V p)(hB:B<=w.heap.size)(hs:∀f∈p.funcs,vZ f)(hv:vC p=0)(f:Nat)(hf:p.funcs[f]? =some []):
 A 15 #[yH V p,I f] w (afO w):=by
 have m:∀W,O w W->A 35 #[yH V p] W (m9 W 0):=fun W hb=>by
  have:=tu (hp.below (hb.mono hB)) (Jn hB hb.size) hs;rw[hv] at this;exact this
 have a6:=(Jh.1 hf).1;have a0:decide ((f:Int)<0)=false:=decide_eq_false Zo;have y:decide ((p.funcs.length:Int)<=(f:Int))=false:=decide_eq_false Zo;have x:decide (p.funcs.length<=f)=false:=decide_eq_false Zo;obtain⟨Vf,Va,Vd,Vb⟩:=V;obtain⟨f1,f2,e1,a8,a7⟩:=hp.funcs.form;have t:Vf=.slice f1 p.funcs.length f2:=e1;subst t;obtain⟨X,q⟩:∃X,w.alloc (G #[.slice f1 p.funcs.length f2,Va,I p.entry,I p.handler,Vd,Vb] 29)=X:=⟨_,rfl⟩;have d:O w X:=by rw[<-q];exact(Below.refl _ _).alloc (Je _) _
 have c:L X w.heap.size #[.slice f1 p.funcs.length f2,Va,I p.entry,I p.handler,Vd,Vb] 29:=by rw[<-q];exact zI rfl
 have u:=Ja (show ∀W,O X W->A 35 #[.agg #[.slice f1 p.funcs.length f2,Va,I p.entry,I p.handler,Vd,Vb]] W (m9 W 0) from fun W hb=>m W (d.trans (hb.mono d.size)));obtain⟨gb,go,rfl,k,bv,g0,l⟩:=hp.funcs.get hf;obtain⟨ka,kc,rfl,a4,a3⟩:=l.form;rw[Nk] at g0;have HG:=Ja (show ∀W,O w W->T W gb (go+f) (.slice ka 0 kc) from fun W hb=>zV (hb.mono hB) k g0);have a5:gb<w.heap.size:=Zo;have x0:=zA (i:=0) c rfl;have x1:=zA (i:=1) c rfl;have x2:=zA (i:=2) c rfl;have x3:=zA (i:=3) c rfl;have x4:=zA (i:=4) c rfl;have x5:=zA (i:=5) c rfl;have o:=lt_of_block c;have h:=Ja (Jb d c);clear d c;clear hp hB hs hv m hf g0 l k;unfold yH;go_enter Tryz.func15,Tryz.ntmps15;go_wp2_with fail
 go_step3
 go_wp2_with (go_at_call 35;go_must (refine(u.out _ (Below.refl _ _)).mono ?_;rintro e w1 ⟨rfl,g⟩;have j:=zH g h.out.2 o;have y0:=zA (i:=0) j rfl;have yg:=HG.out w1 (h.out.1.trans (g.mono h.out.1.size));have a2:=lt_of_block j;have a1:gb<w1.heap.size:=by omega))
 try rw[Exit.noGoto_ret]
 go_ret;exact⟨rfl,h.out.1.trans (g.mono h.out.1.size)⟩
theorem ahS{B:Nat}{V:PV}{p:IProg}(hp:ProgIn w B V p)(hB:B<=w.heap.size)(hs:∀f∈p.funcs,vZ f)(f:Int)(h:¬askR p f):
 A 15 #[yH V p,I f] w (afO w):=by
 by_cases hv:vC p=0
 ·by_cases h1:f<0
  ·exact agK hp hB hs hv f h1
  by_cases h2:(p.funcs.length:Int)<=f
  ·exact agW hp hB hs hv f Zo h2
  obtain⟨n,rfl⟩:∃n:Nat,f=n:=⟨f.toNat,by omega⟩
  have c:n<p.funcs.length:=Zo
  have h3:p.funcs.getD n []=[]:=by
   by_cases e:p.funcs.getD n []=[]
   ·exact e
   ·exact absurd ⟨hv,⟨by omega,by omega⟩,e⟩ h
  refine aff hp hB hs hv n ?_;rw[Jj,Jd c] at h3;rw[Jd c]
  simpa using h3
 ·exact agL hp hB hs hv f
end Go.Proofs.YtoahcpkibpomcaaGreat
