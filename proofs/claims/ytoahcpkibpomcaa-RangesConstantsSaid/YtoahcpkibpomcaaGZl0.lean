/- Part of a proof. -/
import Derived.Test.YtoahcpkibpomcaaGZwi
set_option linter.all false
set_option maxHeartbeats 16000000
set_option maxRecDepth 100000
namespace Go.Proofs.Ytoahcpkibpomcaa
open Go.RowKit
variable {d d':wO}{i x:Int}{j k m ob:Nat}{bl:List IBlk}{g:List (List Nat)}{ns o1 o2 xs:List Nat}{l1:List Evn}{W w wx:World}{K:SK}{t:Slv}
structure Row where
 v:Value
 e:TypeId
 sz:Nat
 n:Nat
 cs:List Value
def Row.blk (r:Row):Option Nat:=r.v.ownBlock
structure Rows (w:World) (B:Nat) (rs:List Row):Prop where
 own:∀r∈rs,w.ownsRow B r.e r.sz r.v r.n r.cs
 nd:(rs.filterMap Row.blk).Nodup
structure B64 (b:IBlk):Prop where
 par:∀x∈b.params,I64 x
 ops:∀o∈b.ops,qN o/\∀x∈o.args,I64 x
 term:I64 b.term.kind/\I64 b.term.a
 tos:∀e∈b.term.to,I64 e.block/\∀x∈e.args,I64 x
structure P64 (p:IProg):Prop where
 funcs:∀f∈p.funcs,∀b∈f,B64 b
 args:∀x∈p.args,I64 x
 data:∀o∈p.data,I64 o.bank/\o.addr<65536/\o.size<65536
 banks:∀s∈p.banks,s.size<=9223372036854775807
 ent:I64 p.entry
 hnd:I64 p.handler
def aq (N:Nat)(b:IBlk):Prop:=(∀x∈b.params,0<=x/\x.toNat<N)/\(∀o∈b.ops,cS N o/\(0<=o.res->o.res.toNat<N))/\∀x∈mE b.term,0<=x/\x.toNat<N
theorem bR{v k:Int}(h:rB d v i k=some d'):(0<=v/\v<=65535)/\∀x,(d'.1 x).isSome=true->(d.1 x).isSome=true∨x=v:=by
 unfold rB at h
 split at h
 ·cases h
 ·rename_i c
  cases h;refine⟨by omega,fun x hx=>?_⟩
  change (lS d.1 v i x).isSome=true at hx
  unfold lS at hx
  by_cases e:x=v
  ·exact .inr e
  ·rw[if_neg e] at hx;exact .inl hx
theorem cL:∀(l:List Int) (d d':wO),vJ i l d=some d'->(∀v∈l,0<=v/\v<=65535)/\∀x,(d'.1 x).isSome=true->(d.1 x).isSome=true∨x∈l
 | [],d,d',h=>by cases h;exact⟨(fun v hv=>by cases hv),fun x hx=> .inl hx⟩
 |v::l,d,d',h=>by
  unfold vJ at h
  cases h1:rB d v i (-1) with
  |none=>rw[h1] at h;cases h
  |some d1=>
   rw[h1,Nw] at h;obtain⟨k1,k2⟩:=bR h1;obtain⟨k3,k4⟩:=cL l d1 d' h;refine⟨fun x hx=>?_,fun x hx=>?_⟩
   ·rcases Jq.1 hx with rfl|hx
    ·exact k1
    ·exact k3 x hx
   ·rcases k4 x hx with c|c
    ·rcases k2 x c with f|rfl
     ·exact .inl f
     ·exact .inr (List.mem_cons_self ..)
    ·exact .inr (List.mem_cons_of_mem _ c)
theorem bN{p:IProg}:∀(l:List IOp) (k:Int) (d d':wO),sS p i l k d=some d'->(∀o∈l,-1<=o.res/\o.res<=65535)/\∀x,(d'.1 x).isSome=true->(d.1 x).isSome=true∨∃o∈l,o.res=x/\0<=x
 | [],k,d,d',h=>by cases h;exact⟨(fun v hv=>by cases hv),fun x hx=> .inl hx⟩
 |o::l,k,d,d',h=>by
  rw[dG] at h
  cases h1:ug p i k o d with
  |none=>rw[h1] at h;cases h
  |some d1=>
   rw[h1,Nw] at h;obtain⟨k3,k4⟩:=bN l (k+1) d1 d' h
   have hs:(-1<=o.res/\o.res<=65535)/\∀x,(d1.1 x).isSome=true->(d.1 x).isSome=true∨(o.res=x/\0<=x):=by
    unfold ug at h1
    split at h1
    ·rename_i hf
     have:=ct hf
     split at h1
     ·rename_i g
      obtain⟨k1,k2⟩:=bR h1;refine⟨by omega,fun x hx=>?_⟩;rcases k2 x hx with c|rfl
      ·exact .inl c
      ·exact .inr ⟨rfl,g⟩
     ·cases h1;exact⟨by omega,fun x hx=> .inl hx⟩
    ·cases h1
   refine⟨fun x hx=>?_,fun x hx=>?_⟩
   ·rcases Jq.1 hx with rfl|hx
    ·exact hs.1
    ·exact k3 x hx
   ·rcases k4 x hx with f|⟨o',f,c⟩
    ·rcases hs.2 x f with c|c
     ·exact .inl c
     ·exact .inr ⟨o,List.mem_cons_self ..,c⟩
    ·exact .inr ⟨o',List.mem_cons_of_mem _ f,c⟩
def DefdIn (l:List IBlk)(x:Int):Prop:=∃b∈l,x∈b.params∨∃o∈b.ops,o.res=x/\0<=x
def bC (l:List IBlk):Prop:=∀b∈l,(∀v∈b.params,0<=v/\v<=65535)/\∀o∈b.ops,-1<=o.res/\o.res<=65535
theorem cP{p:IProg}:∀(l:List IBlk) (i:Int) (d d':wO),uH p bl l i d=some d'->bC l/\∀x,(d'.1 x).isSome=true->(d.1 x).isSome=true∨DefdIn l x
 | [],i,d,d',h=>by cases h;exact⟨(fun v hv=>by cases hv),fun x hx=> .inl hx⟩
 |b::l,i,d,d',h=>by
  unfold uH at h
  cases h1:pS p bl i b d with
  |none=>rw[h1] at h;cases h
  |some d1=>
   rw[h1,Nw] at h;obtain⟨_,d2,h2,h3⟩:=nF h1;obtain⟨k1,k2⟩:=cL _ _ _ h2;obtain⟨k3,k4⟩:=bN _ _ _ _ h3;obtain⟨k5,k6⟩:=cP l (i+1) d1 d' h;refine⟨fun x hx=>?_,fun x hx=>?_⟩
   ·rcases Jq.1 hx with rfl|hx
    ·exact⟨k1,k3⟩
    ·exact k5 x hx
   ·rcases k6 x hx with g|⟨b',g,c⟩
    ·rcases k4 x g with c|c
     ·rcases k2 x c with f|f
      ·exact .inl f
      ·exact .inr ⟨b,List.mem_cons_self ..,.inl f⟩
     ·exact .inr ⟨b,List.mem_cons_self ..,.inr c⟩
    ·exact .inr ⟨b',List.mem_cons_of_mem _ g,c⟩
theorem ak {N:Int}(l:List Int):∀(n:Int),n<=N->(∀v∈l,cG v<=N)->qK n l<=N:=by
 induction l with
 |nil=>intro n h _;exact h
 |cons x l ih=>
  intro n h hl;have e:qK n (x::l)=qK (max n (cG x)) l:=rfl;rw[e];have:=hl x (List.mem_cons_self ..);exact ih _ Zo (fun v hv=>hl v (List.mem_cons_of_mem _ hv))
theorem aaf {N:Int}(l:List IOp):∀(n:Int),n<=N->(∀o∈l,cG o.res<=N)->o8 n l<=N:=by
 induction l with
 |nil=>intro n h _;exact h
 |cons x l ih=>
  intro n h hl;have e:o8 n (x::l)=o8 (max n (cG x.res)) l:=rfl;rw[e];have:=hl x (List.mem_cons_self ..);exact ih _ Zo (fun v hv=>hl v (List.mem_cons_of_mem _ hv))
theorem count_le {N:Int}(l:List IBlk):∀(n:Int),n<=N->(∀b∈l,(∀v∈b.params,cG v<=N)/\∀o∈b.ops,cG o.res<=N)->l.foldl iL n<=N:=by
 induction l with
 |nil=>intro n h _;exact h
 |cons x l ih=>
  intro n h hl;rw[Qk];have c:=hl x (List.mem_cons_self ..);exact ih _ (aaf _ _ (ak _ _ h c.1) c.2) (fun b hb=>hl b (List.mem_cons_of_mem _ hb))
theorem bD(h:bC bl):0<=aaG bl/\aaG bl<=65536:=by
 refine⟨bO bl,count_le bl 0 Zo fun b hb=>⟨fun v hv=>?_,fun o ho=>?_⟩⟩
 ·have:=(h b hb).1 v hv;rw[aaY Zo Zo];omega
 ·have:=(h b hb).2 o ho;rw[aaY Zo Zo];omega
theorem dY(h:bC bl)(d:DefdIn bl x):0<=x/\x.toNat<(aaG bl).toNat:=by
 obtain⟨b,hb,c⟩:=d;have hg:=(dr bl 0).2 b hb;have hs:=h b hb;have e:bl.foldl iL 0=aaG bl:=rfl;rw[e] at hg;rcases c with c|⟨o,ho,rfl,f⟩
 ·have:=hg.1 x c;have:=hs.1 x c;rw[aaY Zo Zo] at *;omega
 ·have:=hg.2 o ho;have:=hs.2 o ho;rw[aaY Zo Zo] at *;omega
theorem dd{k v:Int}(h:yy d g i k v=true):(d.1 v).isSome=true:=by
 cases c:d.1 v with
 |none=>rw[dC c] at h;cases h
 |some b=>rfl
theorem dw{p:IProg}{n:Nat}(i:p.funcs[n]? =some bl)(h:yi p n=true):(0<=aaG bl/\aaG bl<=65536)/\∀b∈bl,aq (aaG bl).toNat b:=by
 cases bl with
 |nil=>exact⟨⟨by decide,by decide⟩,fun b hb=>by cases hb⟩
 |cons b0 bs=>
  obtain⟨_,d,m,hr⟩:=tF i h;obtain⟨k1,k2⟩:=cP (b0::bs) 0 _ d (show uH p (b0::bs) (b0::bs) 0 _=some d from m)
  have f:∀x,(d.1 x).isSome=true->0<=x/\x.toNat<(aaG (b0::bs)).toNat:=fun x hx=>by
   rcases k2 x hx with g|g
   ·cases g
   ·exact dY k1 g
  refine⟨bD k1,fun b hb=>?_⟩;obtain⟨j,l⟩:=Ny hb;unfold iM at hr;rw[Jm] at hr;have c:=(cB _ 0).1 hr.2 j b l;unfold aaC at c;rw[Jm] at c;refine⟨fun x hx=>dY k1 ⟨b,hb,.inl hx⟩,fun o ho=>⟨fun x hx=>?_,fun h0=>(dY k1 ⟨b,hb,.inr ⟨o,ho,rfl,h0⟩⟩).2⟩,fun x hx=>?_⟩
  ·obtain⟨k,hk⟩:=Ny ho;exact f x (dd (Oe.1 ((dF _ 0).1 c.1 k o hk) x hx))
  ·exact f x (dd (Oe.1 c.2 x hx))
theorem aeN{i:Nat}(hi:i<bl.length):succ (zy bl) i=(xz bl i).term.to.map fun e=>e.block.toNat:=by
 obtain⟨b,hb⟩:∃b,bl[i]? =some b:=⟨_,Jd hi⟩
 rw[z6 hb];unfold succ zy;rw[Jj,Jr,hb];rfl
def accL (bl:List IBlk):List IOp:=(bl.flatMap (·.ops)).filter ky
def aff (o:IOp):Int:=if o.code=18∨o.code=20 then 2 else 1
def q8:List IObj->Int->Rg->Int->Int
 | [],_,_,_=>-1
 |o::os,k,a,n=>if o.bank=-1/\o.addr<=a.lo/\(a.hi:Int)+n<=(o.addr:Int)+o.size then k else q8 os (k+1) a n
def afE (data:List IObj)(R:List Rg)(o:IOp):Int:=q8 data 0 (R.getD o.a.toNat ⟨0,0⟩) (aff o)
def aeA (data:List IObj)(R:List Rg)(bl:List IBlk):List Int:=(accL bl).map (afE data R)
def fnT (p:IProg)(bl:List IBlk):Slv:=afX p bl (vD (zy bl)) 0 (ng (aaG bl).toNat (xz bl (0:Nat)).params)
def xB (p:IProg)(bl:List IBlk):List Rg:=qi (fnT p bl)
structure FnS (p:IProg) (bl:List IBlk):Prop where
 st:StF p bl
 cnt:0<=aaG bl/\aaG bl<=65536
 rng:∀i:Nat,i<bl.length->(∀x∈(xz bl i).params,0<=x/\x.toNat<(aaG bl).toNat)/\∀o∈(xz bl i).ops,cS (aaG bl).toNat o/\(0<=o.res->o.res.toNat<(aaG bl).toNat)
 num:∀i:Nat,i<bl.length->∀o∈(xz bl i).ops,o.n<65536
theorem FnS.sol{p:IProg}(h:FnS p bl):∀i:Nat,i<bl.length->tn (aaG bl).toNat bl (xz bl i):=fun i hi=>by
 refine⟨fun o ho h0=>⟨(h.rng i hi).2 o ho|>.2 h0,?_,fun _=>h.num i hi o ho⟩,fun e he x hx=>?_⟩
 ·have:=(aeP (h.st.opok i hi o ho)).1;omega
 ·have c:=h.st.trm i hi;unfold wn at c;rw[Jm,Oe] at c;have d:=c.1 e he;unfold uM at d;simp only[Jm,decide_eq_true_eq] at d;have:=(h.rng e.block.toNat Zo).1;rw[show((e.block.toNat:Nat):Int)=e.block by omega] at this;exact(this x hx).2
theorem FnS.ord{p:IProg}(h:FnS p bl)(i:Nat):i∈vD (zy bl)↔i<bl.length:=by
 obtain⟨ns,d⟩:=adR h.st.vg;rw[d.eq];constructor
 ·intro c;have:=d.lt i c
  rwa [xu] at this
 ·intro c;exact(d.mem i).2 (h.st.all i c)
theorem FnS.pos{p:IProg}(h:FnS p bl):0<bl.length:=by have:=h.st.vg.1;rwa [xu] at this
theorem FnS.end{p:IProg}(h:FnS p bl):EndOk p (aaG bl).toNat bl (vD (zy bl)) (ng (aaG bl).toNat (xz bl (0:Nat)).params) (fnT p bl):=
 end_ok' (fun i hi=>h.sol i ((h.ord i).1 hi)) (aeB fun v hv=>((h.rng 0 h.pos).1 v hv).2)
theorem afn{p:IProg}(hv:vC p=0)(hs:∀f∈p.funcs,vZ f)(g:P64 p){n:Nat}(c:p.funcs[n]? =some bl)(k:bl≠ []):FnS p bl:=by
 obtain⟨_,hf⟩:=rz hv;have d:=Ji c;obtain⟨j,h⟩:=dw c (hf n (Jh.1 c).1);refine⟨stF_of c k (hf n (Jh.1 c).1),j,fun i hi=>?_,fun i hi o ho=>?_⟩
 ·obtain⟨b,hb⟩:∃b,bl[i]? =some b:=⟨_,Jd hi⟩
  rw[z6 hb];have:=h b (Ji hb);exact⟨this.1,this.2.1⟩
 ·obtain⟨b,hb⟩:∃b,bl[i]? =some b:=⟨_,Jd hi⟩
  rw[z6 hb] at ho;exact((g.funcs bl d b (Ji hb)).ops o ho).1.2.2.2.2
structure Loc (bl:List IBlk) (d:wO):Prop where
 par:∀(i:Nat) b,bl[i]? =some b->∀v∈b.params,d.1 v=some (i:Int)/\d.2 v=some (-1)
 op:∀(i:Nat) b,bl[i]? =some b->∀(k:Nat) o,b.ops[k]? =some o->0<=o.res->d.1 o.res=some (i:Int)/\d.2 o.res=some (k:Int)
def qf (d d':wO):Prop:=∀x b,d.1 x=some b->d'.1 x=some b/\d'.2 x=d.2 x
theorem qf.refl (d:wO):qf d d:=fun x b h=>⟨h,rfl⟩
theorem qf.trans {a b c:wO}(h:qf a b)(k:qf b c):qf a c:=fun x y e=>⟨(k x y (h x y e).1).1,((k x y (h x y e).1).2).trans (h x y e).2⟩
theorem em{v k:Int}(h:rB d v i k=some d'):qf d d'/\d'.1 v=some i/\d'.2 v=some k:=by
 unfold rB at h
 split at h
 ·cases h
 ·rename_i f
  cases h;refine⟨fun x b hx=>?_,by show lS d.1 v i v=_;unfold lS;rw[if_pos rfl],by show lS d.2 v k v=_;unfold lS;rw[if_pos rfl]⟩;have c:x≠v:=fun e=>f (.inl (by rw[<-e,hx];rfl))
  show lS d.1 v i x=some b/\lS d.2 v k x=d.2 x
  unfold lS;rw[if_neg c,if_neg c];exact⟨hx,rfl⟩
theorem qf.at(h:qf d d'){k:Int}(c:d.1 x=some i/\d.2 x=some k):d'.1 x=some i/\d'.2 x=some k:=⟨(h x i c.1).1,((h x i c.1).2).trans c.2⟩
theorem j5:∀(l:List Int) (d d':wO),vJ i l d=some d'->qf d d'/\∀v∈l,d'.1 v=some i/\d'.2 v=some (-1)
 | [],d,d',h=>by cases h;exact⟨qf.refl _,fun v hv=>by cases hv⟩
 |v::l,d,d',h=>by
  unfold vJ at h
  cases h1:rB d v i (-1) with
  |none=>rw[h1] at h;cases h
  |some d1=>
   rw[h1,Nw] at h;obtain⟨a1,a2⟩:=em h1;obtain⟨b1,b2⟩:=j5 l d1 d' h;refine⟨a1.trans b1,fun u c=>?_⟩;rcases Jq.1 c with rfl|c
   ·exact b1.at a2
   ·exact b2 u c
theorem mo{p:IProg}:∀(l:List IOp) (k:Int) (d d':wO),sS p i l k d=some d'->qf d d'/\∀(j:Nat) o,l[j]? =some o->0<=o.res->d'.1 o.res=some i/\d'.2 o.res=some (k+j)
 | [],k,d,d',h=>by cases h;exact⟨qf.refl _,fun j o hj=>by simp at hj⟩
 |o::l,k,d,d',h=>by
  unfold sS at h
  split at h
  ·split at h
   ·rename_i h0
    cases h1:rB d o.res i k with
    |none=>rw[h1] at h;cases h
    |some d1=>
     rw[h1,Nw] at h;obtain⟨a1,a2⟩:=em h1;obtain⟨b1,b2⟩:=mo l (k+1) d1 d' h;refine⟨a1.trans b1,fun j x hx h3=>?_⟩
     cases j with
     |zero=>cases hx;rw[show k+((0:Nat):Int)=k by omega];exact b1.at a2
     |succ j=>rw[show k+((j+1:Nat):Int)=k+1+(j:Int) by omega];exact b2 j x (by simpa using hx) h3
   ·rename_i h0
    obtain⟨b1,b2⟩:=mo l (k+1) d d' h;refine⟨b1,fun j x hx h3=>?_⟩
    cases j with
    |zero=>cases hx;exact absurd h3 h0
    |succ j=>rw[show k+((j+1:Nat):Int)=k+1+(j:Int) by omega];exact b2 j x (by simpa using hx) h3
  ·cases h
theorem jn{p:IProg}:∀(l:List IBlk) (i:Int) (d d':wO),uH p bl l i d=some d'->qf d d'/\∀(j:Nat) b,l[j]? =some b->(∀v∈b.params,d'.1 v=some (i+j)/\d'.2 v=some (-1))/\∀(k:Nat) o,b.ops[k]? =some o->0<=o.res->d'.1 o.res=some (i+j)/\d'.2 o.res=some (k:Int)
 | [],i,d,d',h=>by cases h;exact⟨qf.refl _,fun j b hj=>by simp at hj⟩
 |b::l,i,d,d',h=>by
  unfold uH at h
  cases h1:pS p bl i b d with
  |none=>rw[h1] at h;cases h
  |some d1=>
   rw[h1,Nw] at h;obtain⟨c1,c2⟩:=jn l (i+1) d1 d' h
   have hb:qf d d1/\(∀v∈b.params,d1.1 v=some i/\d1.2 v=some (-1))/\∀(k:Nat) o,b.ops[k]? =some o->0<=o.res->d1.1 o.res=some i/\d1.2 o.res=some (k:Int):=by
    unfold pS at h1
    cases f:vJ i b.params d with
    |none=>rw[f] at h1;cases h1
    |some d2=>
     rw[f,Nw] at h1
     cases c:sS p i b.ops 0 d2 with
     |none=>rw[c] at h1;cases h1
     |some d3=>
      rw[c,Nw] at h1
      split at h1
      ·cases h1;obtain⟨a1,a2⟩:=j5 b.params d d2 f;obtain⟨b1,b2⟩:=mo b.ops 0 d2 _ c;exact⟨a1.trans b1,fun v hv=>b1.at (a2 v hv),fun k o ho h0=>by have:=b2 k o ho h0;rwa [Ub] at this⟩
      ·cases h1
   refine⟨hb.1.trans c1,fun j x hx=>?_⟩
   cases j with
   |zero=>
    cases hx;rw[show i+((0:Nat):Int)=i by omega]
    exact⟨fun v hv=>c1.at (hb.2.1 v hv),fun k o ho h0=>c1.at (hb.2.2 k o ho h0)⟩
   |succ j=>rw[show i+((j+1:Nat):Int)=i+1+(j:Int) by omega];exact c2 j x (by simpa using hx)
theorem loc_of{p:IProg}{n:Nat}(g:p.funcs[n]? =some bl)(c:bl≠ [])(h:yi p n=true):∃d,Loc bl d:=by
 cases bl with
 |nil=>exact absurd rfl c
 |cons b0 bs=>
  obtain⟨_,d,j,hr⟩:=tF g h;obtain⟨_,f⟩:=jn (b0::bs) 0 _ d (show uH p (b0::bs) (b0::bs) 0 _=some d from j);refine⟨d,fun i b hb v hv=>?_,fun i b hb k o ho c=>?_⟩
  ·have:=(f i b hb).1 v hv
   rwa [Ub] at this
  ·have:=(f i b hb).2 k o ho c
   rwa [Ub] at this
def AcyG (g:List (List Nat)):Prop:=∀u s,u<g.length->s∈succ g u->¬Walk (GE g) (fun _=>True) s u
theorem afh{L:List Nat}{a b:Nat}(h:Desc g L a b):Walk (GE g) (fun _=>True) a b:=by
 induction h with
 |refl a=>exact .refl trivial
 |step h1 _ _ ih=>exact Walk.trans (.snoc (.refl trivial) h1 trivial) ih
theorem topo(c:OrdF g ns)(f:AcyG g){u s:Nat}(d:u∈0::ns)(hs:s∈succ g u):wh (0::ns) u<wh (0::ns) s:=by
 rcases c.back u s ⟨(c.mem u).1 d,hs⟩ with h|h
 ·exact h
 ·exact absurd (afh h) (f u s (c.lt u d) hs)
theorem pt {α β:Type}(f:α->List β):∀(l:List α) (pre:List β) (e:β) (post:List β),l.flatMap f=pre++e::post->∃o1 i o2 l1 l2,l=o1++i::o2/\f i=l1++e::l2/\pre=o1.flatMap f++l1/\post=l2++o2.flatMap f
 | [],pre,e,post,h=>by simp at h
 |a::l,pre,e,post,h=>by
  rw[Qa] at h;rcases List.append_eq_append_iff.1 h with⟨m,h1,h2⟩|⟨m,h1,h2⟩
  ·obtain⟨o1,i,o2,l1,l2,e1,e2,e3,e4⟩:=pt f l m e post h2;exact⟨a::o1,i,o2,l1,l2,by rw[e1];rfl,e2,by rw[h1,e3,Qa,Nv],e4⟩
  ·cases m with
   |nil=>
    rw[Ua] at h1;rw[Op] at h2;obtain⟨o1,i,o2,l1,l2,e1,e2,e3,e4⟩:=pt f l [] e post h2.symm
    exact⟨a::o1,i,o2,l1,l2,by rw[e1];rfl,e2,by rw[Qa,Nv,<-e3,Ua,h1],e4⟩
   |cons x m=>
    rw[List.cons_append] at h2;obtain⟨rfl,c⟩:=List.cons.inj h2;exact⟨[],a,l,pre,m,rfl,h1,rfl,c⟩
def Cnd (Q k:Int->Prop)(pre:List Evn)(ev:Evn)(post:List Evn):Prop:=
 (∀x∈ev.ins,(k x∨∃e∈pre,e.out=some x)/\∀e∈ev::post,e.out≠some x)/\
 (match ev with|.op o=>0<=o.res->(¬k o.res/\∀e∈pre,e.out≠some o.res)/\¬Q o.res/\∀e∈post,e.out≠some o.res|.arg v _=>Q v)
theorem afC {Q:Int->Prop}:∀(es:List Evn) (k:Int->Prop),(∀pre ev post,es=pre++ev::post->Cnd Q k pre ev post)->afv Q k es
 | [],_,_=>trivial
 |ev::es,k,h=>by
  obtain⟨c1,c2⟩:=h [] ev es rfl;refine⟨fun x hx=>⟨?_,(c1 x hx).2⟩,?_,afC es _ fun pre ev' post e=>?_⟩
  ·rcases(c1 x hx).1 with c|⟨_,c,_⟩
   ·exact c
   ·cases c
  ·cases ev with
   |op o=>exact fun d=>⟨(c2 d).1.1,(c2 d).2⟩
   |arg v x=>exact c2
  ·obtain⟨d1,d2⟩:=h (ev::pre) ev' post (by rw[e];rfl);refine⟨fun x hx=>⟨?_,(d1 x hx).2⟩,?_⟩
   ·rcases(d1 x hx).1 with c|⟨e',c,h2⟩
    ·exact .inl (.inl c)
    ·rcases Jq.1 c with rfl|c
     ·exact .inl (.inr h2)
     ·exact .inr ⟨e',c,h2⟩
   ·cases ev' with
    |op o=>
     intro d;obtain⟨⟨q1,q2⟩,q3⟩:=d2 d
     exact⟨⟨fun hk=>hk.elim q1 (q2 ev (.head _)),fun e' he=>q2 e' (.tail _ he)⟩,q3⟩
    |arg v x=>exact d2
theorem afU{p:IProg}(h:StF p bl)(i:j<bl.length){e:Evn}(he:e∈evB bl (xz bl j))(hx:e.out=some x):
 (∃o,e=.op o/\o∈(xz bl j).ops/\o.res=x/\0<=x)∨∃(s:Nat) (b:IBlk),s∈succ (zy bl) j/\1<=s/\bl[s]? =some b/\x∈b.params:=by
 unfold evB at he;rcases Jl.1 he with he|he
 ·obtain⟨o,ho,rfl⟩:=Nu.1 he;have hx:(if 0<=o.res then some o.res else none)=some x:=hx
  by_cases g:0<=o.res
  ·rw[if_pos g] at hx;cases hx;exact .inl ⟨o,rfl,ho,rfl,g⟩
  ·rw[if_neg g] at hx;cases hx
 ·obtain⟨ed,f,he⟩:=Qx.1 he;obtain⟨⟨v,y⟩,k,rfl⟩:=Nu.1 he;have hx:some v=some x:=hx;cases hx;have c:=h.trm j i;unfold wn at c;rw[Jm,Oe] at c;have d:=c.1 ed f;unfold uM at d;simp only[Jm,decide_eq_true_eq] at d;have hs:ed.block.toNat<bl.length:=Zo;refine .inr ⟨ed.block.toNat,bl[ed.block.toNat],?_,by omega,Jd hs,?_⟩
  ·rw[aeN i];exact Nu.2 ⟨ed,f,rfl⟩
  ·have hb:=z6 (Jd hs);rw[show((ed.block.toNat:Nat):Int)=ed.block by omega] at hb;rw[<-hb];exact(List.of_mem_zip k).1
theorem arg_in{p:IProg}(h:StF p bl){s:Nat}(i:j<bl.length)(hs:s∈succ (zy bl) j){b:IBlk}(hb:bl[s]? =some b)(l:x∈b.params):∃e∈evB bl (xz bl j),e.out=some x:=by
 rw[aeN i] at hs;obtain⟨ed,g,rfl⟩:=Nu.1 hs;have c:=h.trm j i;unfold wn at c;rw[Jm,Oe] at c;have d:=c.1 ed g;unfold uM at d;simp only[Jm,decide_eq_true_eq] at d;have f:=z6 hb;rw[show((ed.block.toNat:Nat):Int)=ed.block by omega] at f;rw[f] at d;obtain⟨m,hm⟩:=Ny l;have o:=(Jh.1 hm).1;obtain⟨y,k⟩:∃y,ed.args[m]? =some y:=⟨_,Jd Zo⟩
 refine⟨.arg x y,?_,rfl⟩;unfold evB;refine Qf _ (Qx.2 ⟨ed,g,Nu.2 ⟨(x,y),?_,rfl⟩⟩);rw[f];exact Ji (List.getElem?_zip_eq_some.2 ⟨hm,k⟩)
theorem mg{i:Nat}(d:(0::ns).Nodup)(h:0::ns=o1++i::o2):(∀a∈o1,wh (0::ns) a<wh (0::ns) i)/\(∀a∈o2,wh (0::ns) i<wh (0::ns) a):=by
 have hp:=mr d;generalize wh (0::ns)=f at *;rw[h] at hp;have c:=List.pairwise_append.1 hp;exact⟨fun a ha=>c.2.2 a ha i (.head _),fun a ha=>(List.pairwise_cons.1 c.2.1).1 a ha⟩
def af2 (bl:List IBlk)(b:IBlk):List Evn:=b.term.to.flatMap fun e=>((xz bl e.block).params.zip e.args).map fun x=> .arg x.1 x.2
theorem ga{b:IBlk}{e:Evn}(h:e∈af2 bl b):∃v x,e=.arg v x:=by
 obtain⟨ed,_,c⟩:=Qx.1 h;obtain⟨⟨v,x⟩,_,rfl⟩:=Nu.1 c;exact⟨v,x,rfl⟩
theorem afP{b:IBlk}{l2:List Evn}{ev:Evn}(h:evB bl b=l1++ev::l2):
 (∃k o,b.ops[k]? =some o/\ev=.op o/\l1=(b.ops.take k).map .op/\l2=(b.ops.drop (k+1)).map .op++af2 bl b)∨∃m1,l1=b.ops.map .op++m1/\af2 bl b=m1++ev::l2:=by
 have h:b.ops.map Evn.op++af2 bl b=l1++ev::l2:=h;rcases List.append_eq_append_iff.1 h with⟨m,f,d⟩|⟨m,f,d⟩
 ·exact .inr ⟨m,f,d⟩
 ·cases m with
  |nil=>exact .inr ⟨[],by rw[f];simp,by rw[d];rfl⟩
  |cons x m=>
   rw[List.cons_append] at d;obtain⟨rfl,g⟩:=List.cons.inj d;obtain⟨a,c,e1,e2,e3⟩:=List.map_eq_append_iff.1 f
   cases c with
   |nil=>cases e3
   |cons o c=>
    rw[Ql] at e3;obtain⟨rfl,e4⟩:=List.cons.inj e3;refine .inl ⟨a.length,o,by rw[e1];simp,rfl,?_,?_⟩
    ·rw[e1,<-e2];simp
    ·rw[e1,g,<-e4];simp
def Plc (bl:List IBlk)(f:Nat->Nat)(i k:Nat)(x:Int):Prop:=
 ∃(c:Nat) (b:IBlk),bl[c]? =some b/\f c<=f i/\(x∈b.params∨∃(l:Nat) (o:IOp),b.ops[l]? =some o/\o.res=x/\0<=x/\(c=i->l<k))
theorem plc_of{p:IProg}(u:FnS p bl)(t:OrdF (zy bl) ns){i:Nat}(hi:i<bl.length)(h:afT bl i k x):Plc bl (wh (0::ns)) i k x:=by
 obtain⟨b,hb⟩:∃b,bl[i]? =some b:=⟨_,Jd hi⟩
 rcases h with(h|⟨j,o,q,f,m,d⟩)|⟨c,q,f,m,d⟩
 ·rw[z6 hb] at h;exact⟨i,b,hb,Je _,.inl (by simpa using h)⟩
 ·rw[z6 hb] at f;exact⟨i,b,hb,Je _,.inr ⟨j,o,f,m,d,fun _=>q⟩⟩
 ·obtain⟨bc,g⟩:∃b,bl[c]? =some b:=⟨_,Jd f⟩
  rw[z6 g] at d;obtain⟨D,w⟩:=t.dom;have:=w.dom_mem ((t.mem i).2 (u.st.all i hi)) m;refine⟨c,bc,g,this.2,?_⟩;rcases d with d|⟨o,h5,h6,y⟩
  ·exact .inl d
  ·obtain⟨l,hl⟩:=Ny h5;exact .inr ⟨l,o,hl,h6,y,fun e=>absurd e q⟩
theorem n5(d:OrdF (zy bl) ns)(c:j∈0::ns):j<bl.length:=by have:=d.lt j c;rwa [xu] at this
theorem before{p:IProg}(hF:FnS p bl)(f:OrdF (zy bl) ns){i:Nat}(t:0::ns=o1++i::o2)(hx:Plc bl (wh (0::ns)) i k x)(a5:∀m o,m<k->(xz bl i).ops[m]? =some o-> .op o∈l1):
 x∈(xz bl (0:Nat)).params∨∃e∈(o1.flatMap fun j:Nat=>evB bl (xz bl (j:Int)))++l1,e.out=some x:=by
 obtain⟨c,b,hb,hc,a3⟩:=hx;have b0:=(Jh.1 hb).1;have w:c∈0::ns:=(f.mem c).2 (hF.st.all c b0);have a2:=mg f.nodup t;have a6:i∈0::ns:=by rw[t];exact Qf _ (.head _)
 have a1:∀a∈0::ns,wh (0::ns) a<wh (0::ns) i->a∈o1:=fun a d g=>by
  rw[t] at d;rcases Jl.1 d with d|d
  ·exact d
  ·rcases Jq.1 d with rfl|d
   ·omega
   ·have:=a2.2 a d;omega
 rcases a3 with g|⟨l,o,g,h3,h4,h5⟩
 ·by_cases e:c=0
  ·subst e;rw[z6 hb];exact .inl g
  ·have a9:c∈ns:=by
    rcases Jq.1 w with h|h
    ·exact absurd h e
    ·exact h
   obtain⟨q,a0,b1⟩:=f.fwd c a9;have y:=(f.mem q).2 a0.1;obtain⟨ev,h6,h7⟩:=arg_in hF.st (n5 f y) a0.2 hb g;exact .inr ⟨ev,Jz _ (Qx.2 ⟨q,a1 q y Zo,h6⟩),h7⟩
 ·have u:(Evn.op o).out=some x:=by
   show(if 0<=o.res then some o.res else none)=some x
   rw[h3,if_pos h4]
  by_cases e:c=i
  ·subst e;exact .inr ⟨.op o,Qf _ (a5 l o (h5 rfl) (by rw[z6 hb];exact g)),u⟩
  ·have a4:wh (0::ns) c<wh (0::ns) i:=by
    rcases Nat.lt_or_eq_of_le hc with h|h
    ·exact h
    ·exact absurd (ou f.nodup w a6 h) e
   refine .inr ⟨.op o,Jz _ (Qx.2 ⟨c,a1 c w a4,?_⟩),u⟩;rw[z6 hb];exact Jz _ (Nu.2 ⟨o,Ji g,rfl⟩)
section
variable {p:IProg} {bl:List IBlk} {d:wO} {ns:List Nat} (hF:FnS p bl) (hL:Loc bl d) (hO:OrdF (zy bl) ns) (ha:AcyG (zy bl))
include hF hL hO ha
theorem aeC{i:Nat}(hx:Plc bl (wh (0::ns)) i k x)(hi:i∈0::ns)(w:j∈0::ns)(a6:wh (0::ns) i<=wh (0::ns) j){e:Evn}(he:e∈evB bl (xz bl j))(u:e.out=some x):
 j=i/\∃m o,m<k/\(xz bl i).ops[m]? =some o/\e=.op o/\o.res=x:=by
 obtain⟨c,b,hb,hc,h⟩:=hx;have t:=n5 hO w;obtain⟨bj,f⟩:∃b,bl[j]? =some b:=⟨_,Jd t⟩
 have a4:=(Jh.1 hb).1;have a9:c∈0::ns:=(hO.mem c).2 (hF.st.all c a4);rcases afU hF.st t he u with⟨o,rfl,ho,hr,h0⟩|⟨s,bs,hs,h1,a5,a0⟩
 ·rw[z6 f] at ho;obtain⟨m,hm⟩:=Ny ho;have q:=hL.op j bj f m o hm (by rw[hr];exact h0);rw[hr] at q;rcases h with d|⟨l,o',d,g,y,h5⟩
  ·have:=(hL.par c b hb x d).2;rw[q.2] at this;have:=Nt this;omega
  ·have q2:=hL.op c b hb l o' d (by rw[g];exact y);rw[g,q.1,q.2] at q2;have e1:=Nt q2.1;have e2:=Nt q2.2;have a3:j=c:=Zo;subst a3;have a2:j=i:=ou hO.nodup w hi Zo;subst a2;exact⟨rfl,m,o,by have:=h5 rfl;omega,by rw[z6 f];exact hm,rfl,hr⟩
 ·exfalso;have q:=hL.par s bs a5 x a0;rcases h with d|⟨l,o',d,g,y,h5⟩
  ·have q2:=hL.par c b hb x d;rw[q.1] at q2;have e1:=Nt q2.1;have a1:s=c:=Zo;subst a1;have:=topo hO ha w hs;omega
  ·have q2:=hL.op c b hb l o' d (by rw[g];exact y);rw[g,q.2] at q2;have e2:=Nt q2.2;omega
def ParQ (bl:List IBlk)(x:Int):Prop:=∃(i:Nat) (b:IBlk),1<=i/\bl[i]? =some b/\x∈b.params
theorem ca {k0:Int->Prop}(d0:∀x∈(xz bl (0:Nat)).params,k0 x)(c9:∀x,k0 x->x∈(xz bl (0:Nat)).params):afv (ParQ bl) k0 (evL bl (0::ns)):=by
 refine afC _ _ fun pre ev post hsplit=>?_
 obtain⟨o1,i,o2,l1,l2,a9,b5,rfl,rfl⟩:=pt _ _ _ _ _ hsplit;have a6:=mg hO.nodup a9;have a3:i∈0::ns:=by rw[a9];exact Qf _ (.head _)
 have b1:=n5 hO a3;obtain⟨b,hb⟩:∃b,bl[i]? =some b:=⟨_,Jd b1⟩
 have a5:=z6 hb;have ho2:∀j∈o2,j∈0::ns:=fun j w=>by rw[a9];exact Qf _ (.tail _ w)
 have c5:∀j∈o1,j∈0::ns:=fun j w=>by rw[a9];exact Jz _ w
 have d5:=hF.pos;obtain⟨b0,c3⟩:∃b,bl[0]? =some b:=⟨_,Jd d5⟩
 have c1:∀(k:Nat) (x:Int),afT bl i k x->(∀m o,m<k->(xz bl i).ops[m]? =some o-> .op o∈l1)->(∀o,.op o∈ev::l2->∃m,k<=m/\(xz bl i).ops[m]? =some o)->
  (k0 x∨∃e∈(o1.flatMap fun j:Nat=>evB bl (xz bl (j:Int)))++l1,e.out=some x)/\∀e∈ev::(l2++o2.flatMap fun j:Nat=>evB bl (xz bl (j:Int))),e.out≠some x:=by
  intro k x d4 a2 a0;have b8:=plc_of hF hO b1 d4;refine⟨?_,fun e f d=>?_⟩
  ·rcases before hF hO a9 b8 a2 with h|h
   ·exact .inl (d0 x h)
   ·exact .inr h
  ·have a4:e∈ev::l2∨∃j∈o2,e∈evB bl (xz bl (j:Int)):=by
    rcases Jq.1 f with rfl|f
    ·exact .inl (.head _)
    ·rcases Jl.1 f with f|f
     ·exact .inl (.tail _ f)
     ·exact .inr (Qx.1 f)
   rcases a4 with a4|⟨j,w,a4⟩
   ·have l:e∈evB bl (xz bl (i:Int)):=by rw[b5];exact Qf _ a4
    obtain⟨_,m,o,hm,ho,rfl,hr⟩:=aeC hF hL hO ha b8 a3 a3 (Je _) l d;obtain⟨m',d7,g⟩:=a0 o a4
    have h0:0<=o.res:=by
     have d:(if 0<=o.res then some o.res else none)=some x:=d
     by_cases h:0<=o.res
     ·exact h
     ·rw[if_neg h] at d;cases d
    rw[a5] at ho g;have q1:=(hL.op i b hb m o ho h0).2;rw[(hL.op i b hb m' o g h0).2] at q1;have:=Nt q1;omega
   ·obtain⟨a1,_⟩:=aeC hF hL hO ha b8 a3 (ho2 j w) (Qd (a6.2 j w)) a4 d;have:=a6.2 j w;rw[a1] at this;exact absurd this (Nat.lt_irrefl _)
 rcases afP b5 with⟨k,o,ho,rfl,a2,a0⟩|⟨m1,a2,a0⟩
 ·have b3:∀m o',m<k->(xz bl i).ops[m]? =some o'->Evn.op o'∈l1:=fun m o' hm g=>by
   rw[a2];exact Nu.2 ⟨o',Ji (by rw[List.getElem?_take_of_lt hm];exact g),rfl⟩
  have b2:∀o',Evn.op o'∈Evn.op o::l2->∃m,k<=m/\(xz bl i).ops[m]? =some o':=fun o' h=>by
   rcases Jq.1 h with h|h
   ·cases h;exact⟨k,Je _,ho⟩
   ·rw[a0] at h;rcases Jl.1 h with h|h
    ·obtain⟨o2,u,h2⟩:=Nu.1 h;cases h2;obtain⟨m,hm⟩:=Ny u;rw[List.getElem?_drop] at hm;exact⟨k+1+m,by omega,hm⟩
    ·obtain⟨v,x,u⟩:=ga h;cases u
  refine⟨fun x t=>?_,fun h0=>?_⟩
  ·have hu:x∈rR o:=by
    have t:x∈(if 0<=o.res then(if(zi o.code).a=true then [o.a] else [])++(if(zi o.code).b=true then [o.b] else []) else []):=t
    by_cases h0:0<=o.res
    ·rw[if_pos h0] at t;rcases Jl.1 t with t|t
     ·by_cases h:(zi o.code).a=true
      ·rw[if_pos h] at t;rw[Jo.1 t];exact mem_a h
      ·rw[if_neg h] at t;cases t
     ·by_cases h:(zi o.code).b=true
      ·rw[if_pos h] at t;rw[Jo.1 t];exact mem_b h
      ·rw[if_neg h] at t;cases t
    ·rw[if_neg h0] at t;cases t
   exact c1 k x (hF.st.use i k o b1 ho x hu) b3 b2
  ·rw[a5] at ho;have q:=hL.op i b hb k o ho h0
   have b9:∀(c:Nat) bc,bl[c]? =some bc->o.res ∉ bc.params:=fun c bc hc hm=>by
    have:=(hL.par c bc hc o.res hm).2;rw[q.2] at this;have:=Nt this;omega
   have b4:∀(j:Nat),j∈0::ns->∀e∈evB bl (xz bl (j:Int)),e.out=some o.res->j=i/\∃o',e=.op o'/\(xz bl i).ops[k]? =some o':=fun j w e f d=>by
    have c2:=n5 hO w;obtain⟨bj,b6⟩:∃b,bl[j]? =some b:=⟨_,Jd c2⟩
    rcases afU hF.st c2 f d with⟨o',rfl,g,hr,d6⟩|⟨s,bs,hs,u,c0,b7⟩
    ·rw[z6 b6] at g;obtain⟨m,hm⟩:=Ny g;have q2:=hL.op j bj b6 m o' hm (by rw[hr];exact d6);rw[hr,q.1,q.2] at q2;have e1:=Nt q2.1;have e2:=Nt q2.2;have a1:j=i:=Zo;subst a1;have c8:m=k:=Zo;subst c8;rw[b6] at hb;cases hb;exact⟨rfl,o',rfl,by rw[z6 b6];exact hm⟩
    ·exact absurd b7 (b9 s bs c0)
   refine⟨⟨fun hk=>b9 0 b0 c3 (by have:=c9 _ hk;rwa [z6 c3] at this),fun e f d=>?_⟩,fun⟨c,bc,_,hc,hm⟩=>b9 c bc hc hm,fun e f d=>?_⟩
   ·rcases Jl.1 f with f|f
    ·obtain⟨j,w,f⟩:=Qx.1 f;obtain⟨a1,_⟩:=b4 j (c5 j w) e f d;have:=a6.1 j w;rw[a1] at this;exact absurd this (Nat.lt_irrefl _)
    ·have l:e∈evB bl (xz bl (i:Int)):=by rw[b5];exact Jz _ f
     obtain⟨_,o',rfl,g⟩:=b4 i a3 e l d;rw[a2] at f;obtain⟨o3,u,h2⟩:=Nu.1 f;cases h2;obtain⟨m,hm⟩:=Ny u;have c7:=(Jh.1 hm).1;rw[Oc] at c7;rw[List.getElem?_take_of_lt Zo,a5] at hm;rw[a5] at g;have hr:o'.res=o.res:=by rw[ho] at g;cases g;rfl
     have q3:=(hL.op i b hb m o' hm (by rw[hr];exact h0)).2;rw[hr,q.2] at q3;have:=Nt q3;omega
   ·rcases Jl.1 f with f|f
    ·have l:e∈evB bl (xz bl (i:Int)):=by rw[b5];exact Qf _ (.tail _ f)
     obtain⟨_,o',rfl,g⟩:=b4 i a3 e l d;rw[a0] at f;rcases Jl.1 f with f|f
     ·obtain⟨o3,u,h2⟩:=Nu.1 f;cases h2;obtain⟨m,hm⟩:=Ny u;rw[List.getElem?_drop,a5] at hm;rw[a5] at g;have hr:o'.res=o.res:=by rw[ho] at g;cases g;rfl
      have q3:=(hL.op i b hb (k+1+m) o' hm (by rw[hr];exact h0)).2;rw[hr,q.2] at q3;have:=Nt q3;omega
     ·obtain⟨v,x,u⟩:=ga f;cases u
    ·obtain⟨j,w,f⟩:=Qx.1 f;obtain⟨a1,_⟩:=b4 j (ho2 j w) e f d;have:=a6.2 j w;rw[a1] at this;exact absurd this (Nat.lt_irrefl _)
 ·have l:ev∈af2 bl (xz bl (i:Int)):=by rw[a0];exact Qf _ (.head _)
  obtain⟨v,x,rfl⟩:=ga l
  have b3:∀m o',m<(xz bl i).ops.length->(xz bl i).ops[m]? =some o'->Evn.op o'∈l1:=fun m o' _ g=>by
   rw[a2];exact Jz _ (Nu.2 ⟨o',Ji g,rfl⟩)
  have b2:∀o',Evn.op o'∈Evn.arg v x::l2->∃m,(xz bl i).ops.length<=m/\(xz bl i).ops[m]? =some o':=fun o' h=>by
   have hm:Evn.op o'∈af2 bl (xz bl (i:Int)):=by rw[a0];exact Qf _ h
   obtain⟨v',x',u⟩:=ga hm;cases u
  obtain⟨ed,d3,hz⟩:=Qx.1 l;obtain⟨⟨v',x'⟩,hz,d2⟩:=Nu.1 hz;have c4:v=v'/\x=x':=by cases d2;exact⟨rfl,rfl⟩
  obtain⟨rfl,rfl⟩:=c4;refine⟨fun y hy=>?_,?_⟩
  ·have hy:y∈ [x]:=hy;rw[Jo.1 hy];refine c1 _ x (hF.st.ends i b1 x ?_) b3 b2;unfold mE;exact Qf _ (List.mem_flatten.2 ⟨_,Nu.2 ⟨ed,d3,rfl⟩,(List.of_mem_zip hz).2⟩)
  ·have d:(Evn.arg v x).out=some v:=rfl;have d1:Evn.arg v x∈evB bl (xz bl (i:Int)):=Qf _ l;rcases afU hF.st b1 d1 d with⟨o',u,_⟩|⟨s,bs,hs,u,c0,b7⟩
   ·cases u
   ·exact⟨s,bs,u,c0,b7⟩
end
def objT (o:IObj)(a:Rg)(n:Int):Prop:=o.bank=-1/\o.addr<=a.lo/\(a.hi:Int)+n<=(o.addr:Int)+o.size
theorem objGo_at{l:List IObj}{o:IObj}(h:l[k]? =some o)(a:Rg)(n:Int):(objT o a n->q8 (l.drop k) k a n=k)/\(¬objT o a n->q8 (l.drop k) k a n=q8 (l.drop (k+1)) (k+1:Nat) a n):=by
 have hk:=(Jh.1 h).1;have c:l.drop k=o::l.drop (k+1):=by rw[Qn hk,(Jh.1 h).2]
 rw[c,show((k+1:Nat):Int)=(k:Int)+1 by omega];rw[q8];constructor
 ·intro ht;exact if_pos ht
 ·intro ht;exact if_neg ht
theorem ae6{B:Nat}{V:PV}{p:IProg}(hp:ProgIn w B V p)(hB:B<=w.heap.size){a:Rg}(ha:a.ok)(n:Int)(hn:0<=n/\n<=2):
 A 24 #[yH V p,.agg #[M (a.lo:Int),M (a.hi:Int)],I n] w (qs w (q8 p.data 0 a n)):=by
 obtain⟨Vf,Va,Vd,Vb⟩:=V;obtain⟨da,dc,e3,b5,b4⟩:=hp.data.form;have a4:=hp.data;have b0:Vd=.slice da p.data.length dc:=e3;subst b0;have b6:=ha.1;have b7:=ha.2;have b3:=hn.1;have b2:=hn.2;obtain⟨G,hG⟩:∃G,q8 p.data 0 a n=G:=⟨_,rfl⟩
 rw[hG];have HG:=Ja hG;unfold yH;obtain⟨X,hX⟩:∃X,(w.alloc (U #[Vf,Va,I p.entry,I p.handler,.slice da p.data.length dc,Vb] 44)).alloc (U #[M (a.lo:Int),M (a.hi:Int)] 48)=X:=⟨_,rfl⟩
 have j:Q w X:=by rw[<-hX];exact((Below.refl _ _).alloc (Je _) _).alloc Zs _
 have a1:T X w.heap.size #[Vf,Va,I p.entry,I p.handler,.slice da p.data.length dc,Vb] 44:=by rw[<-hX];exact zB (zI rfl)
 have a0:T X (w.heap.size+1) #[M (a.lo:Int),M (a.hi:Int)] 48:=by rw[<-hX];exact zI Zs
 have f:=Ja (show Q w X/\T X w.heap.size #[Vf,Va,I p.entry,I p.handler,.slice da p.data.length dc,Vb] 44/\T X (w.heap.size+1) #[M (a.lo:Int),M (a.hi:Int)] 48/\kq X B (.slice da p.data.length dc) p.data/\B<=X.heap.size from⟨j,a1,a0,a4.below tZ (j.mono hB),Jn hB j.size⟩);clear a4 hp j a1 a0 hG ha hn hB;go_enter Try.func24,Try.ntmps24;go_upto_region 1 with fail;clear hX;obtain⟨t3,a3⟩:∃t,w.heap.size=t:=⟨_,rfl⟩
 obtain⟨t4,a2⟩:∃t,w.heap.size+1=t:=⟨_,rfl⟩
 have HT:=Ja f.out.1;rw[a2] at f ⊢;rw[a3] at f ⊢;clear a3 a2;have d4:O X t3 4 (.slice da p.data.length dc):=zA f.out.2.1 rfl;go_wp2;clear d4
 go_loopw [12] (fun kv wx=>∃k:Nat,k<=p.data.length/\kv=I k/\Hid (q8 (p.data.drop k) k a n=G/\Q X wx)) (fun kv _=>p.data.length-(intOf kv).toNat)
 case atStart=>exact⟨0,Jt _,rfl,Ja ⟨HG.out,Below.refl _ _⟩⟩
 case round=>
  obtain⟨k,hk,rfl,c⟩:=hrel;have i:=zH c.out.2 f.out.2.2.1 (lt_of_block f.out.2.2.1);have x0:O wr t4 0 (M (a.lo:Int)):=zA i rfl;have x1:O wr t4 1 (M (a.hi:Int)):=zA i rfl;have b8:=lt_of_block i;clear i
  by_cases y:k<p.data.length
  ·have a6:(k:Int)<(p.data.length:Int):=Zo;obtain⟨o,ho⟩:∃o,p.data[k]? =some o:=⟨_,Jd y⟩
   obtain⟨ob,oq,a9,a5,o0,o1,o2,ob64,oa64,os64⟩:=(f.out.2.2.2.1.below tZ (c.out.2.mono f.out.2.2.2.2)).get ho;subst a9;have b1:ob<wr.heap.size:=Jy a5 (Jn f.out.2.2.2.2 c.out.2.size);have d:=Ja (Jb (objGo_at ho a n) (Jb y ob64));clear ho ob64 y a5;obtain⟨ov,m⟩:∃v,o.bank=v:=⟨_,rfl⟩
   obtain⟨oA,x⟩:∃v,o.addr=v:=⟨_,rfl⟩
   obtain⟨oS,u⟩:∃v,o.size=v:=⟨_,rfl⟩
   have h:=Ja (Jb m (Jb x u));rw[m] at o0;rw[x] at o1 oa64;rw[u] at o2 os64;clear m x u;have hT:∀q:Prop,Decidable q->True:=fun _ _=>trivial
   clear hT
   by_cases l:ov=-1
   ·by_cases h2:oA<=a.lo
    ·by_cases h3:(a.hi:Int)+n<=(oA:Int)+oS
     ·have g:=Ja ((d.out.1.1 ⟨h.out.1.trans l,by rw[h.out.2.1];exact h2,by rw[h.out.2.1,h.out.2.2];exact h3⟩).symm.trans c.out.1);subst l;go_wp2;go_ret;exact⟨by rw[<-g.out];rfl,(HT.out.trans (c.out.2.mono HT.out.size)).trans ((Below.alloc (Below.refl _ _) (Je _) _).mono (Jn HT.out.size c.out.2.size))⟩
     ·have g:=Ja ((d.out.1.2 (fun t=>h3 (by have:=t.2.2;rw[h.out.2.1,h.out.2.2] at this;exact this))).symm.trans c.out.1);subst l;go_wp2;go_roundw
      case rel=>exact⟨k+1,d.out.2.1,by go_num,Ja ⟨g.out,c.out.2.trans ((Below.alloc (Below.refl _ _) (Je _) _).mono c.out.2.size)⟩⟩
      case measure=>have:=d.out.2.1;simp[intOf];omega
    ·have g:=Ja ((d.out.1.2 (fun t=>h2 (by have:=t.2.1;rw[h.out.2.1] at this;exact this))).symm.trans c.out.1);have b9:a.lo<oA:=Zo;subst l;clear h2;go_wp2;go_roundw
     case rel=>exact⟨k+1,d.out.2.1,by go_num,Ja ⟨g.out,c.out.2.trans ((Below.alloc (Below.refl _ _) (Je _) _).mono c.out.2.size)⟩⟩
     case measure=>have:=d.out.2.1;simp[intOf];omega
   ·have g:=Ja ((d.out.1.2 (fun t=>l (h.out.1.symm.trans t.1))).symm.trans c.out.1);have c0:(ov==(-1:Int))=false:=by simpa using l
    go_wp2;go_roundw
    case rel=>exact⟨k+1,d.out.2.1,by go_num,Ja ⟨g.out,c.out.2.trans ((Below.alloc (Below.refl _ _) (Je _) _).mono c.out.2.size)⟩⟩
    case measure=>have:=d.out.2.1;simp[intOf];omega
  ·obtain rfl:k=p.data.length:=by omega
   have a6:¬(p.data.length:Int)<(p.data.length:Int):=Zo;have g:=Ja (show(-1:Int)=G by have:=c.out.1;rw[List.drop_length] at this;exact this);go_wp2;go_ret;exact⟨by rw[<-g.out];rfl,HT.out.trans (c.out.2.mono HT.out.size)⟩
theorem vF{α:Type}{sz:Nat}{R:World->Nat->Nat->Nat->α->Prop}{B:Nat}{v:Value}{xs:List α}(h:yN sz R w B v xs){x:α}(c:x∈xs):∃b o,R w B b o x:=by
 obtain⟨k,hk⟩:=Ny c;obtain⟨a,f,rfl,_,_,d⟩:=h;obtain⟨b,o,_,_,hr⟩:=d k x hk;exact⟨b,_,hr⟩
theorem rI{B:Nat}{v:Value}{xs:List Int}(h:zY w B v xs):∀x∈xs,I64 x:=fun x hx=>by
 obtain⟨b,o,hr⟩:=vF h hx;exact hr.2
theorem ProgIn.p64{B:Nat}{V:PV}{p:IProg}(h:ProgIn w B V p):P64 p:=by
 refine⟨fun f hf b hb=>?_,rI h.args,fun o ho=>?_,fun s hs=>?_,h.ent,h.hnd⟩
 ·obtain⟨x,y,bv,_,g⟩:=vF h.funcs hf;obtain⟨x,y,_,_,q,pv,ov,tv,_,_,_,k,j,i⟩:=vF g hb;refine⟨rI k,fun o ho=>?_,q,fun e he=>?_⟩
  ·obtain⟨x,y,_,_,_,_,_,l,av,_,c⟩:=vF j ho;exact⟨l,rI c⟩
  ·obtain⟨x,y,_,d,av,_,c⟩:=vF i he;exact⟨d,rI c⟩
 ·obtain⟨x,y,_,_,_,m⟩:=vF h.data ho;exact m
 ·obtain⟨x,y,t,d⟩:=vF h.banks hs;exact d
def RgsRet (w:World)(l:List Rg)(e:Ending)(w':World):Prop:=∃b,e=.returned (L b l.length l.length)/\T w' b (l.flatMap xe).toArray 48/\w.heap.size<=b/\Q w w'
theorem use_of{p:IProg}(hv:vC p=0){n:Nat}(c:p.funcs[n]? =some bl):∀b∈bl,aq (aaG bl).toNat b:=
 (dw c ((rz hv).2 n (Jh.1 c).1)).2
theorem afk {c:Int}(h:ruG c≠none):(c=3∨c=4∨c=19∨c=23)∨5<=c/\c<=17:=by
 by_cases d:(c=3∨c=4∨c=19∨c=23)∨5<=c/\c<=17
 ·exact d
 ·exfalso;apply h;simp only[ruG,putR]
  iterate 17 rw[if_neg Zo]
theorem blkW_of{p:IProg}(h:FnS p bl)(w:∀b∈bl,aq (aaG bl).toNat b){i:Nat}(hi:i<bl.length):BlkW (aaG bl).toNat p bl (xz bl i):=by
 obtain⟨b,hb⟩:∃b,bl[i]? =some b:=⟨_,Jd hi⟩
 have u:=z6 hb;have q:=w b (Ji hb);refine⟨fun o ho h0=>⟨(h.sol i hi).1 o ho,?_,?_⟩,fun e he=>?_⟩
 ·intro m;have:=(aeP (h.st.opok i hi o ho)).2.1 m;omega
 ·intro h1 m hr;have d:=h.st.opok i hi o ho;have j:=((h.rng i hi).2 o ho).1;have t:=afk hr
  have y:(zi o.code).a=true:=by
   rcases t with(e|e|e|e)|e
   ·rw[e];rfl
   ·rw[e];rfl
   ·rw[e];rfl
   ·rw[e];rfl
   ·unfold zi;rw[if_neg Zo,if_neg Zo,if_pos e]
  have h3:=j.a y;refine⟨by omega,?_⟩
  by_cases k:(zi o.code).b=true
  ·have:=j.b k;omega
  ·unfold opF at d;rw[Jm] at d;have l:=d.2;rw[if_neg Zo,if_neg m] at l;simp only[Jm,Bool.or_eq_true,decide_eq_true_eq] at l
   have g:o.b=0:=by
    rcases l.1.1.1.2 with g|g
    ·exact absurd g k
    ·exact g
   omega
 ·have c:=h.st.trm i hi;unfold wn at c;rw[Jm,Oe] at c;have f:=c.1 e he;unfold uM at f;simp only[Jm,decide_eq_true_eq] at f;refine⟨by omega,f.2,fun x hx=>?_,fun x hx=>?_⟩
  ·rw[u] at he;have:=q.2.2 x (by unfold mE;rw[Jl];exact .inr (List.mem_flatten.2 ⟨_,Nu.2 ⟨e,he,rfl⟩,hx⟩));omega
  ·have:=(h.rng e.block.toNat Zo).1 x (by rw[show((e.block.toNat:Nat):Int)=e.block by omega];exact hx);omega
theorem ru_cells (n:Nat):madeCells (#[M 0,M 0]:Array Value) (n*2)=((List.replicate n (⟨0,0⟩:Rg)).flatMap xe).toArray:=by
 apply Array.ext
 ·simp[madeCells,xe,List.length_flatMap]
 ·intro i d g;have hi:i<n*2:=by simpa[madeCells] using d
  have f:((List.replicate n (⟨0,0⟩:Rg)).flatMap xe)=List.replicate (n*2) (M 0):=by
   clear d g hi
   induction n with
   |zero=>rfl
   |succ n ih=>rw[Qz,Qa,ih,show(n+1)*2=n*2+1+1 by omega];rfl
  simp only[f,List.getElem_toArray,List.getElem_replicate];simp only[madeCells,Array.getElem_map,Array.getElem_range];have c:i%2=0∨i%2=1:=Zo;rcases c with c|c
  ·show(#[M 0,M 0]:Array Value)[i%2]! =_;rw[c];rfl
  ·show(#[M 0,M 0]:Array Value)[i%2]! =_;rw[c];rfl
theorem nx{b:Nat}{o:Option Obj}(h:w.heap[b]? =o):w.drew.heap[b]? =o:=h
theorem kn_cells (n:Nat):madeCells (#[.bool false]:Array Value) n=((List.replicate n false).map Value.bool).toArray:=by rw[yA];simp
def afx (w wx:World)(K:SK)(p:IProg)(bl:List IBlk):Prop:=SlvAt wx K p bl 0 ⟨List.replicate K.n ⟨0,0⟩,List.replicate K.n false⟩/\Q w wx/\w.heap.size<=K.rb/\w.heap.size<=K.kb/\w.heap.size<=K.sb
theorem slvNew{B n sb rb kb rm:Nat}{V:PV}{fv:Value}{p:IProg}(hp:ProgIn wx B V p)(h:wX wx B fv bl)(d:B<=w.heap.size)(i:n<=1000000)(g:Q w wx)
 (hm:tt wx rm 17 ruG) (hs:T wx sb #[V.fv,V.av,I p.entry,I p.handler,V.dv,V.bv,fv,.map (some rm),L rb n n,L kb n n,I 0] 69)
 (hr:T wx rb ((List.replicate n (⟨0,0⟩:Rg)).flatMap xe).toArray 48) (hk:T wx kb ((List.replicate n false).map Value.bool).toArray 4)
 (c:w.heap.size<=sb/\w.heap.size<=rb/\w.heap.size<=kb/\w.heap.size<=rm) (f:sb≠rb/\sb≠kb/\sb≠rm/\rb≠kb/\rb≠rm/\kb≠rm):afx w wx ⟨sb,rb,kb,rm,n,B,V,fv⟩ p bl:=
 ⟨⟨hp,h,hm,hs,hr,hk,⟨by simp,by simp,fun a ha=>by rw[(List.mem_replicate.1 ha).2];exact⟨Je _,Jt _⟩⟩,i,⟨Jn d c.1,Jn d c.2.1,Jn d c.2.2.1,Jn d c.2.2.2⟩,f⟩,g,c.2.1,c.2.2.1,c.1⟩
theorem slvNew'{B n sb rb kb rm:Nat}{V:PV}{fv:Value}{p:IProg}(hs:T wx sb #[V.fv,V.av,I p.entry,I p.handler,V.dv,V.bv,fv,.map (some rm),L rb n n,L kb n n,I 0] 69)
 (i:B<=w.heap.size) (h:n<=1000000) (hp:ProgIn wx B V p) (g:wX wx B fv bl) (f:Q w wx) (hm:tt wx rm 17 ruG)
 (hr:T wx rb ((List.replicate n (⟨0,0⟩:Rg)).flatMap xe).toArray 48) (hk:T wx kb ((List.replicate n false).map Value.bool).toArray 4)
 (d:w.heap.size<=sb/\w.heap.size<=rb/\w.heap.size<=kb/\w.heap.size<=rm) (c:sb≠rb/\sb≠kb/\sb≠rm/\rb≠kb/\rb≠rm/\kb≠rm):∃K:SK,Value.pointer (some ⟨sb,0,none⟩)=G K.sb/\K.n=n/\Hid (afx w wx K p bl):=
 ⟨_,rfl,rfl,Ja (slvNew hp g i h f hm hs hr hk d c)⟩
theorem Try.info_range:(Try.prog.info? 48).map (fun i=>(i.zero,i.size,i.bytes))=some (some (.agg #[M 0,M 0]),2,4):=by kernel_rfl
theorem make_rgs (n:Nat)(g:n<=1000000)(w:World):(Instr.makeSlice 45 (I n) (I n)).run Try.prog w=.ok (L w.heap.size n n) (w.alloc (U ((List.replicate n (⟨0,0⟩:Rg)).flatMap xe).toArray 48)):=by
 obtain⟨i,hi,f,d,c⟩:=info_parts Try.info_range;have:=run_make (P:=Try.prog) w 45 48 i (.agg #[M 0,M 0]) Try.underlying45 hi f .i64 .i64 n n Zo (Og _) (by rw[c];omega) Zo;rw[this,d,Ni,<-ru_cells];rfl
def ix (w:World)(ob:Nat)(xs:List Nat):Prop:=∃cur,T w ob cur 3/\∀(k x:Nat),xs[k]? =some x->cur[k]? =some (I x)
theorem own_ord{c n:Nat}{v:Value}(h:w.ownsRow c 3 1 v n (xs.map zj))(t:n=xs.length)(y:0<xs.length):∃ob oc,v=L ob n oc/\n<=oc/\oc<=9223372036854775807/\c<=ob/\ix w ob xs:=by
 rcases h.2 with⟨_,e⟩|⟨g,i,d,rfl,hg,j,o,m,u,l⟩
 ·omega
 ·refine⟨g,i,rfl,o,by unfold maxLen at m;omega,hg,d,j,fun k x hk=>?_⟩;have q:=(Jh.1 hk).1;have f:(d.toList.take (n*1))[k]? =some (zj x):=by rw[l,Jr,hk];rfl
  rw[List.getElem?_take_of_lt Zo] at f
  simpa[zj] using f
theorem ix.to{w':World}(h:ix w ob xs)(ht:SlvTo w w' K)(c:ob≠K.rb/\ob≠K.kb/\ob≠K.sb):ix w' ob xs:=by
 obtain⟨f,d,g⟩:=h;exact⟨f,ht.blk d (lt_of_block d) c,g⟩
theorem ix.lt(h:ix w ob xs):ob<w.heap.size:=by obtain⟨d,c,_⟩:=h;exact lt_of_block c
theorem ix.cell {w:World}{ob:Nat}{xs:List Nat}(h:ix w ob xs){k x:Nat}(hk:xs[k]? =some x):O w ob k (I x):=by
 obtain⟨f,d,c⟩:=h;exact zA d (c k x hk)
theorem SlvAt.round{p:IProg}{c:List IBlk}{s:Slv}(h:SlvAt w K p c k s)(d:w.setCell ⟨K.sb,10,none⟩ (I (((k+1:Nat)):Int))=W):SlvAt W K p c (k+1) s/\SlvTo w W K:=by
 have g:=h.ne;have hb:Below K.B w W:=by rw[<-d];exact(Below.refl K.B w).setCell h.lt.1 _
 have ho:∀i,i≠K.sb->W.heap[i]? =w.heap[i]?:=fun i h1=>by rw[<-d,Below.heap_setCell _ _ _ _ h1]
 have f:=zD (i:=10) h.cell (I (((k+1:Nat)):Int));rw[d] at f;exact⟨⟨h.prog.below hb,h.blks.below yT hb,h.map.same (ho _ Zo),f,(ho _ Zo).trans h.row,(ho _ Zo).trans h.kn,h.oks,h.n64,h.lt,h.ne⟩,⟨hb.os,hb.tape,hb.output,hb.size,fun i _ _ _ h3=>ho i h3⟩⟩
theorem SlvAt.putR{X:World}{p:IProg}{f:List IBlk}{s:Slv}(h:SlvAt X K p f k s){v:Nat}(hv:v<K.n){a:Rg}(m:a.ok)
 (j:(X.setCell ⟨K.rb,v*2,none⟩ (M (a.lo:Int))).setCell ⟨K.rb,v*2+1,none⟩ (M (a.hi:Int))=W):
 SlvAt W K p f k ⟨s.r.set v a,s.kn⟩/\SlvTo X W K:=by
 have l:=h.ne;have c:=h.lt;have d:=zD (i:=v*2+1) (zD (i:=v*2) h.row (M (a.lo:Int))) (M (a.hi:Int));rw[j] at d
 have hb:Below K.B X W:=by
  rw[<-j];exact((Below.refl K.B X).setCell c.2.1 _).setCell c.2.1 _
 have ho:∀i,i≠K.rb->W.heap[i]? =X.heap[i]?:=fun i h1=>by
  rw[<-j,Below.heap_setCell _ _ _ _ h1,Below.heap_setCell _ _ _ _ h1]
 refine⟨⟨h.prog.below hb,h.blks.below yT hb,h.map.same (ho _ Zo),(ho _ Zo).trans h.cell,?_,(ho _ Zo).trans h.kn,⟨by show(s.r.set _ _).length=_;rw[Nd,h.oks.rl],h.oks.kl,fun x g=>?_⟩,h.n64,c,l⟩,⟨hb.os,hb.tape,hb.output,hb.size,fun i _ h1 _ _=>ho i h1⟩⟩
 ·have:=aeT s.r v a (by rw[h.oks.rl];exact hv);rw[<-this];exact d
 ·rcases Qe g with g|rfl
  ·exact h.oks.ok x g
  ·exact m
def tz (t:Slv)(m:Nat):Slv:=⟨(qi t).take m++t.r.drop m,t.kn⟩
theorem pn{n:Nat}(h:OkS n t):(qi t).length=n:=by unfold qi;rw[Nr,List.length_zip,h.rl,h.kl,Nat.min_self]
theorem ae3{n:Nat}(h:OkS n t):tz t n=⟨qi t,t.kn⟩:=by
 unfold tz;rw[Oy (by rw[pn h];exact Je _),List.drop_of_length_le (by rw[h.rl];exact Je _),Ua]
theorem e9{n:Nat}(h:OkS n t)(hm:m<n):(qi t)[m]? =some (if t.knw (m:Int)=true then t.get (m:Int) else zf):=by
 have d:m<t.r.length:=by rw[h.rl];exact hm
 have c:m<t.kn.length:=by rw[h.kl];exact hm
 unfold qi Slv.knw Slv.get;rw[Jr,Jd (by rw[List.length_zip];omega)];simp[Jj,Jd d,Jd c]
theorem afc (t:Slv)(m:Nat)(v:Int):(tz t m).knw v=t.knw v:=rfl
theorem aeY{n:Nat}(h:OkS n t)(hm:m<n)(hk:t.knw (m:Int)=true):tz t (m+1)=tz t m:=by
 have c:m<t.r.length:=by rw[h.rl];exact hm
 have hg:=e9 h hm;rw[if_pos hk] at hg;have d:t.get (m:Int)=t.r[m]:=by unfold Slv.get;simp[Jj,Jd c]
 unfold tz;rw[Nh,hg,Qn c,d];simp
theorem afK{n:Nat}(h:OkS n t)(hm:m<n)(hk:t.knw (m:Int)=false):tz t (m+1)=⟨(tz t m).r.set m zf,(tz t m).kn⟩:=by
 have c:m<t.r.length:=by rw[h.rl];exact hm
 have hg:=e9 h hm;rw[hk,if_neg Zd] at hg;have hl:((qi t).take m).length=m:=by rw[Oc,pn h];omega
 unfold tz;simp only;rw[Nh,hg,Uj _ _ Zo,hl,Qy,Qn c,Jf];simp
theorem df{B:Nat}{V:PV}{p:IProg}(hp:ProgIn w B V p)(hB:B<=w.heap.size)(hs:∀f∈p.funcs,vZ f)(hv:vC p=0){f:Nat}(hf:p.funcs[f]? =some bl)(h0:bl≠ []):
 A 8 #[yH V p,I f] w (RgsRet w (xB p bl)):=by
 have hF:=afn hv hs hp.p64 hf h0;have hU:=use_of hv hf
 have i8:∀W,Q w W->A 16 #[yH V p] W (m9 W 0):=fun W hb=>by
  have:=tu (hp.below (hb.mono hB)) (Jn hB hb.size) hs;rw[hv] at this;exact this
 obtain⟨Vf,Va,Vd,Vb⟩:=V;obtain⟨f1,f2,e1,s8,s7⟩:=hp.funcs.form;have o0:Vf=.slice f1 p.funcs.length f2:=e1;subst o0;obtain⟨gb,go,rfl,i0,bv,g0,f0⟩:=hp.funcs.get hf;obtain⟨ka,kc,rfl,s4,s3⟩:=f0.form;rw[Nk] at g0;have s6:=(Jh.1 hf).1;have k5:=hF.pos;have g8:=hs bl (Ji hf);obtain⟨X,hX⟩:∃X,w.alloc (U #[.slice (some ⟨gb,go,none⟩) p.funcs.length f2,Va,I p.entry,I p.handler,Vd,Vb] 44)=X:=⟨_,rfl⟩
 have c3:Q w X:=by rw[<-hX];exact(Below.refl _ _).alloc (Je _) _
 have a0:X.heap[w.heap.size]? =some (U #[.slice (some ⟨gb,go,none⟩) p.funcs.length f2,Va,I p.entry,I p.handler,Vd,Vb] 44):=by rw[<-hX];exact zI rfl
 have HX:=Ja (Jb c3 (Jb a0 (show ∀W,Q w W->ProgIn W B ⟨.slice (some ⟨gb,go,none⟩) p.funcs.length f2,Va,Vd,Vb⟩ p/\wX W B (.slice ka bl.length kc) bl/\O W gb (go+f) (.slice ka bl.length kc) from fun W hb=>⟨hp.below (hb.mono hB),f0.below yT (hb.mono hB),zV (hb.mono hB) i0 g0⟩)));have o:=Ja (Jb hF (Jb hU (Jb hs (Jb hv (Jb g8 (Jb hB (Jb h0 i0)))))));have o1:=Ja (show ∀W,Q X W->A 16 #[.agg #[.slice (some ⟨gb,go,none⟩) p.funcs.length f2,Va,I p.entry,I p.handler,Vd,Vb]] W (m9 W 0) from fun W hb=>i8 W (c3.trans (hb.mono c3.size)));have r5:decide ((f:Int)<0)=false:=decide_eq_false Zo;have r4:decide ((p.funcs.length:Int)<=(f:Int))=false:=decide_eq_false Zo;have q9:decide (p.funcs.length<=f)=false:=decide_eq_false Zo;have q5:((bl.length:Int)==0)=false:=Ze;have q4:(bl.length==0)=false:=beq_eq_false_iff_ne.2 Zo;have n2:gb<w.heap.size:=Zo;have x0:=zA (i:=0) a0 rfl;have x1:=zA (i:=1) a0 rfl;have x2:=zA (i:=2) a0 rfl;have x3:=zA (i:=3) a0 rfl;have x4:=zA (i:=4) a0 rfl;have x5:=zA (i:=5) a0 rfl;have k3:=lt_of_block a0;clear hp hB hs hv hf h0 hF hU i8 g0 f0 g8 c3 a0;unfold yH;go_enter Try.func8,Try.ntmps8;go_wp2_with fail
 go_step3
 go_upto_region 3 with(go_at_call 16;go_must (refine(o1.out _ (Below.refl _ _)).mono ?_;rintro e w1 ⟨rfl,c7⟩;have x:=zH c7 HX.out.2.1 k3;have y0:=zA (i:=0) x rfl;have yg:=(HX.out.2.2 w1 (HX.out.1.trans (c7.mono HX.out.1.size))).2.2;have m8:=lt_of_block x;have m4:gb<w1.heap.size:=by omega))
 clear hX x0 x1 x2 x3 x4 x5;obtain⟨N,hN⟩:∃N:Nat,aaG bl=N:=⟨(aaG bl).toNat,by have:=o.out.1.cnt;omega⟩
 have s9:N<=65536:=by have:=o.out.1.cnt;omega
 obtain⟨Y,hY⟩:∃Y,w1.alloc (U #[.slice ka bl.length kc] 39)=Y:=⟨_,rfl⟩
 obtain⟨t5,g7⟩:∃t,w1.heap.size=t:=⟨_,rfl⟩
 have b9:Q w1 Y:=by rw[<-hY];exact(Below.refl _ _).alloc (Je _) _
 have d3:Y.heap[w1.heap.size]? =some (U #[.slice ka bl.length kc] 39):=by rw[<-hY];exact zI rfl
 have b7:=HX.out.1.trans (c7.mono HX.out.1.size);have HY:=Ja (show Q w Y/\Y.heap[w.heap.size]? =some (U #[.slice (some ⟨gb,go,none⟩) p.funcs.length f2,Va,I p.entry,I p.handler,Vd,Vb] 44)/\Y.heap[w1.heap.size]? =some (U #[.slice ka bl.length kc] 39)/\w.heap.size<w1.heap.size/\w1.heap.size<Y.heap.size from⟨b7.trans (b9.mono b7.size),zH b9 x (lt_of_block x),d3,lt_of_block x,lt_of_block d3⟩);rw[g7] at HY;have y5:=zA (i:=0) HY.out.2.2.1 rfl;have l1:t5<Y.heap.size:=HY.out.2.2.2.2
 have p0:=Ja (show ∀W,Q Y W->A 17 #[.agg #[.slice ka bl.length kc]] W (qs W (N:Int)) from fun W hb=>by
  have:=ls (w:=W) (HX.out.2.2 W (HY.out.1.trans (hb.mono HY.out.1.size))).2.1 (Jn o.out.2.2.2.2.2.1 (Jn HY.out.1.size hb.size)) o.out.2.2.2.2.1;rw[hN] at this
  exact this)
 have HN:=Ja hN;clear hN b9 d3 b7 x c7 n2;go_upto_region 5 with(go_at_call 17;go_must (refine(p0.out _ (Below.refl _ _)).mono ?_;rintro e w2 ⟨rfl,c5⟩))
 clear hY g7 y5 y0 yg m8 m4;have f4:Q w w2:=HY.out.1.trans (c5.mono HY.out.1.size);have x:=zH c5 HY.out.2.1 (lt_of_block HY.out.2.1);have e6:=zH c5 HY.out.2.2.1 (lt_of_block HY.out.2.2.1);have l:=Ja (show Q w w2/\w2.heap[w.heap.size]? =_/\w2.heap[t5]? =_ from⟨f4,x,e6⟩);have a1:w.heap.size<w2.heap.size:=lt_of_block x;have c0:t5<w2.heap.size:=lt_of_block e6;clear c5 f4 x e6 l1;have HC:=Ja (show ∀w',Q w2 w'->(O w' w.heap.size 0 (.slice (some ⟨gb,go,none⟩) p.funcs.length f2)/\O w' w.heap.size 1 Va/\O w' w.heap.size 2 (I p.entry)/\O w' w.heap.size 3 (I p.handler)/\O w' w.heap.size 4 Vd/\O w' w.heap.size 5 Vb)/\O w' t5 0 (.slice ka bl.length kc) from fun W hb=>⟨⟨zA (zH hb l.out.2.1 a1) rfl,zA (zH hb l.out.2.1 a1) rfl,zA (zH hb l.out.2.1 a1) rfl,zA (zH hb l.out.2.1 a1) rfl,zA (zH hb l.out.2.1 a1) rfl,zA (zH hb l.out.2.1 a1) rfl⟩,zA (zH hb l.out.2.2 c0) rfl⟩);obtain⟨⟨x0,x1,x2,x3,x4,x5⟩,y5⟩:=HC.out w2 (Below.refl _ _);have e3:=make_rgs N Zo;have b6:=run_make_row' (P:=Try.prog) 67 4 (.bool false) 1 Try.underlying67 Try.info_bool rfl .i64 .i64 N Zo Zo;rw[kn_cells] at b6;obtain⟨ZR,f6⟩:∃Z,((List.replicate N (⟨0,0⟩:Rg)).flatMap xe).toArray=Z:=⟨_,rfl⟩
 obtain⟨ZB,f9⟩:∃Z,((List.replicate N false).map Value.bool).toArray=Z:=⟨_,rfl⟩
 rw[f6] at e3;rw[f9] at b6;have HZ:=Ja (Jb f6 f9);clear f6 f9
 go_cut [7] from 46 to 54 (fun s wx=>∃K:SK,s=G K.sb/\K.n=N/\Hid (afx w2 wx K p bl))
 case first=>
  go_region_held3 (fun w'=>(O w' w.heap.size 0 (.slice (some ⟨gb,go,none⟩) p.funcs.length f2)/\O w' w.heap.size 1 Va/\O w' w.heap.size 2 (I p.entry)/\O w' w.heap.size 3 (I p.handler)/\O w' w.heap.size 4 Vd/\O w' w.heap.size 5 Vb)/\O w' t5 0 (.slice ka bl.length kc))
   ((refine HC.out _ ?_;repeat' (first|with_reducible exact Below.refl _ _|with_reducible assumption|with_reducible refine Below.drew ?_|with_reducible refine Below.alloc ?_ Zn _|with_reducible refine Below.setCell ?_ Zn _)))
   ((go_at_call 18;refine(afD _).mono ?_;rintro e w3 ⟨rfl,h4,f3,e5⟩;have n4:Q w2 w3:=Below.trans (show Q w2 _ from by repeat' (first|with_reducible exact Below.refl _ _|with_reducible assumption|with_reducible refine Below.drew ?_|with_reducible refine Below.alloc ?_ Zn _|with_reducible refine Below.setCell ?_ Zn _)) (f3.mono Zn);have l3:w2.heap.size<=w3.heap.size:=n4.size;have h6:=e5;rw[show ∀v:World,v.drew.heap=v.heap from fun _=>rfl] at h6;(try simp at h6)))
  all_goals go_wp2_with fail
  all_goals go_meet
  all_goals (
   refine slvNew' (B:=B) (V:=⟨.slice (some ⟨gb,go,none⟩) p.funcs.length f2,Va,Vd,Vb⟩) (fv:=.slice ka bl.length kc) (zI (by first|rfl|(simp;done)|(simp;omega))) (Jn o.out.2.2.2.2.2.1 l.out.1.size) Zo ?_ ?_ ?_ ?_ ?_ ?_ ?_ ?_
   ·exact(HX.out.2.2 _ (l.out.1.trans (Below.mono (show Q w2 _ from by repeat' (first|with_reducible exact Below.refl _ _|with_reducible assumption|with_reducible refine Below.drew ?_|with_reducible refine Below.alloc ?_ Zn _|with_reducible refine Below.setCell ?_ Zn _)) l.out.1.size))).1
   ·exact(HX.out.2.2 _ (l.out.1.trans (Below.mono (show Q w2 _ from by repeat' (first|with_reducible exact Below.refl _ _|with_reducible assumption|with_reducible refine Below.drew ?_|with_reducible refine Below.alloc ?_ Zn _|with_reducible refine Below.setCell ?_ Zn _)) l.out.1.size))).2.1
   ·repeat' (first|with_reducible exact Below.refl _ _|with_reducible assumption|with_reducible refine Below.drew ?_|with_reducible refine Below.alloc ?_ Zn _|with_reducible refine Below.setCell ?_ Zn _)
   ·exact tt.below (by first|exact h4|simpa using h4) (by repeat' (first|with_reducible exact Below.refl _ _|with_reducible assumption|with_reducible refine Below.drew ?_|with_reducible refine Below.alloc ?_ Zn _|with_reducible refine Below.setCell ?_ Zn _))
   ·rw[HZ.out.1];repeat' (first|exact zI (by first|rfl|(simp;done)|(simp;omega))|exact zH f3 (by repeat' (first|exact zI (by first|rfl|(simp;done)|(simp;omega))|refine nx ?_|refine zB ?_)) (by first|exact e5|omega|(simp;done)|(simp;omega))|refine nx ?_|refine zB ?_)
   ·rw[HZ.out.2];repeat' (first|exact zI (by first|rfl|(simp;done)|(simp;omega))|exact zH f3 (by repeat' (first|exact zI (by first|rfl|(simp;done)|(simp;omega))|refine nx ?_|refine zB ?_)) (by first|exact e5|omega|(simp;done)|(simp;omega))|refine nx ?_|refine zB ?_)
   ·refine⟨?_,?_,?_,?_⟩<;>(first|exact Je _|omega|(simp;done)|(simp;omega))
   ·refine⟨?_,?_,?_,?_,?_,?_⟩<;>(first|omega|(simp;done)|(simp;omega)))
 case rest=>
  obtain⟨K,rfl,k0,HK⟩:=hcut;have a4:=HK.out.2.1;have y5:O wc t5 0 (.slice ka bl.length kc):=zA (zH a4 l.out.2.2 c0) rfl;have k4:=lt_of_block (zH a4 l.out.2.2 c0);obtain⟨b0,f5⟩:∃b,bl[0]? =some b:=⟨_,Jd k5⟩
  have e8:=(HX.out.2.2 wc (l.out.1.trans (a4.mono l.out.1.size))).2.1;obtain⟨qb,qo,l7,l9,_,_,_,pv,_,_,u0,_,_,b3,_,_⟩:=e8.get f5;obtain⟨pa,pc,rfl,m2,m1⟩:=b3.form;subst l7;rw[Nat.zero_mul,Uk] at u0;have r6:qb<wc.heap.size:=Jy l9 (Jn o.out.2.2.2.2.2.1 (Jn l.out.1.size a4.size));have p3:b0.params.length<=9223372036854775807:=Zo;have a3:=Ja (Jb f5 (Jb b3 a4));have h7:K.n=(aaG bl).toNat:=by rw[k0,HN.out];rfl
  have d0:=Ja h7;clear k0 h7 e8 b3 f5 m2 m1 a4 HC e3 b6 x0 x1 x2 x3 x4 x5;have a9:=HK.out.2.2;have d1:=Ja (show ∀wx,SlvTo wc wx K->Below w2.heap.size wc wx from fun wx h=>h.below ⟨a9.1,a9.2.1,a9.2.2,HK.out.2.1.size⟩);have g3:=Ja (show ∀wx,SlvTo wc wx K->wX wx B (.slice (some ⟨qb,qo,none⟩) bl.length kc) bl/\zY wx B (.slice pa b0.params.length pc) b0.params/\O wx t5 0 (.slice (some ⟨qb,qo,none⟩) bl.length kc)/\t5<wx.heap.size/\B<=wx.heap.size from fun wx h=>⟨(HX.out.2.2 wx (l.out.1.trans ((a3.out.2.2.trans ((d1.out wx h).mono (Je _))).mono l.out.1.size))).2.1,a3.out.2.1.below zO ((d1.out wx h).mono (Jn o.out.2.2.2.2.2.1 l.out.1.size)),zA (zH (a3.out.2.2.trans (d1.out wx h)) l.out.2.2 c0) rfl,Jy k4 h.size,Jn o.out.2.2.2.2.2.1 (Jn l.out.1.size (Jn a3.out.2.2.size h.size))⟩);clear a9;go_wp2;clear y5 u0
  go_loopw [61] (fun kv wx=>∃(j:Nat) (s':Slv) (c:Bool),j<=b0.params.length/\kv=I j/\Hid ((b0.params.take j).foldl (fun q v=>tg 0 v zf q) (⟨List.replicate K.n ⟨0,0⟩,List.replicate K.n false⟩,false)=(s',c)/\SlvAt wx K p bl 0 s'/\SlvTo wc wx K)) (fun kv _=>b0.params.length-(intOf kv).toNat)
  case atStart=>exact⟨0,_,_,Jt _,rfl,Ja ⟨rfl,HK.out.1,SlvTo.refl _ _⟩⟩
  case round=>
   obtain⟨j,s',c,hj,rfl,HJ⟩:=hrel
   by_cases d:j<b0.params.length
   ·have a2:(j:Int)<(b0.params.length:Int):=Zo;obtain⟨v,hv⟩:∃v,b0.params[j]? =some v:=⟨_,Jd d⟩
    obtain⟨pb,po,m3,h3,l0,_⟩:=(g3.out wr HJ.out.2.2).2.1.get hv;subst m3;rw[Nk] at l0;have p4:pb<wr.heap.size:=Jy h3 (g3.out wr HJ.out.2.2).2.2.2.2;have d4:=((o.out.1.rng 0 o.out.1.pos).1 v (by rw[show((0:Nat):Int)=((0:Nat):Int) from rfl,z6 a3.out.1];exact Ji hv))
    rw[<-d0.out] at d4;obtain⟨vn,rfl⟩:∃vn:Nat,v=vn:=⟨v.toNat,by omega⟩
    obtain⟨s2,r,hq⟩:∃s2 r,setF 0 s' (vn:Int) zf=(s2,r):=⟨_,_,rfl⟩
    have o2:=Ja (show ∀W,SlvAt W K p bl 0 s'->A 19 #[G K.sb,I vn,.agg #[M 0,M 65535]] W (re W K p bl 0 (s2,r)) from fun W hb=>by
     have:=aw hb (v:=vn) (by have:=d4.2;rw[Ni] at this;exact this) xf (kr xf (hb.oks.get _));rw[hq] at this
     exact this)
    have HV:=Ja (Jb hv (Jb hq d));clear hv hq d4 d h3
    go_wp2_with (first
     |(go_at_call 20;go_must (refine(vt _).mono ?_;rintro e w5 ⟨rfl,a5⟩))
     |(go_at_call 19;go_must (refine(o2.out _ (HJ.out.2.1.below a5)).mono ?_;rintro e w6 ⟨rfl,d6,g6⟩;have H6:=Ja (Jb d6 ((SlvTo.of_below a5).trans g6));clear d6 g6 a5)))
    go_roundw
    case rel=>exact⟨j+1,s2,_,HV.out.2.2,by go_num,Ja ⟨by rw[ti HV.out.1,HJ.out.1];unfold tg;rw[HV.out.2.1],H6.out.1,HJ.out.2.2.trans H6.out.2⟩⟩
    case measure=>have:=HV.out.2.2;simp[intOf];omega
   ·obtain rfl:j=b0.params.length:=by omega
    have a2:¬(b0.params.length:Int)<(b0.params.length:Int):=Zo
    have o6:=Ja (show ng (aaG bl).toNat (xz bl (0:Nat)).params=s' by
     unfold ng;rw[<-d0.out,z6 a3.out.1];have:=HJ.out.1;rw[Nl] at this
     rw[this])
    have d2:=Ja HJ.out.2;clear hj d HJ;obtain⟨z1,z2,z3,z4,z5⟩:=g3.out wr d2.out.2;have HG:=Ja (ox z1 z5 ⟨o.out.2.2.2.2.1.1,fun b hb=>(o.out.2.2.2.2.1.2 b hb).2.2⟩)
    have g4:∀b∈bl,wn bl b.term=true:=fun b hb=>by
     obtain⟨i,hi⟩:=Ny hb;have:=o.out.1.st.trm i (Jh.1 hi).1;rw[z6 hi] at this;exact this
    have o9:=Ja (show ∀W b1,OwnRows zN 3 25 W wr.heap.size b1 (zk bl)->GraphIn W (L b1 (zk bl).length (zk bl).length) (zy bl) from fun W b1 h=>bU o.out.2.2.2.2.1 o.out.2.2.2.2.2.2.1 g4 (h.asRows (Je _)));obtain⟨od,d8⟩:∃od,vD (zy bl)=od:=⟨_,rfl⟩
    obtain⟨gl,h9⟩:∃n,(zk bl).length=n:=⟨_,rfl⟩
    have g2:0∈od:=by rw[<-d8];exact(o.out.1.ord 0).2 o.out.1.pos
    have k6:0<od.length:=List.length_pos_of_mem g2;have a6:=Ja (Jb d8 h9);clear z1 z2 z5 g4 d8 h9 g2
    go_wp2_with (first
     |(go_at_call 22;go_must (refine HG.out.mono ?_;rintro e w7 ⟨b1,rfl,c1,n3,c4⟩;rw[a6.out.2]))
     |(go_at_call 21;go_must (refine(iJ (by have:=o9.out w7 b1 c1;rw[a6.out.2] at this;exact this)).mono ?_;rintro e w8 ⟨ov,rfl,b4,i1⟩;rw[a6.out.1] at b4;obtain⟨ob,oc,rfl,q3,q0,e0,j9⟩:=own_ord b4 rfl k6)))
    have b8:Q wr w8:=c4.trans (i1.mono c4.size);have e2:=d2.out.1.fresh (b:=ob) (Jn c4.size e0)
    have d5:∀i∈od,tn K.n bl (xz bl i):=fun i hi=>by
     rw[d0.out];exact o.out.1.sol i ((o.out.1.ord i).1 (by rw[a6.out.1];exact hi))
    obtain⟨T,hT⟩:∃T,afX p bl od 0 s'=T:=⟨_,rfl⟩
    have e7:xB p bl=qi T:=by
     unfold xB fnT;rw[o6.out,a6.out.1,hT]
    have HQ:=Ja (show SlvAt w8 K p bl 0 s'/\SlvTo wc w8 K/\ix w8 ob od/\(ob≠K.rb/\ob≠K.kb/\ob≠K.sb)/\(∀i∈od,tn K.n bl (xz bl i))/\afX p bl od 0 s'=T/\xB p bl=qi T from⟨d2.out.1.below b8,d2.out.2.trans (SlvTo.of_below b8),j9,e2,d5,hT,e7⟩);have p5:od.length<=9223372036854775807:=Zo;clear b8 e2 d5 hT e7 j9 c4 i1 b4 c1 n3 e0 z3 z4;go_wp2
    go_step3
    go_wp2
    go_loopg [11] (ql 0 s') (fun g cv wx=>∃(j:Nat) (t:Slv),Hid (g=ql j t/\j+ql j t<=4+K.n/\afX p bl od j t=T/\SlvAt wx K p bl j t/\SlvTo w8 wx K))
    case atStart=>exact⟨0,s',Ja ⟨rfl,by have:=nfL_le s'.r s'.kn;have:=HQ.out.1.oks.rl;unfold ql Slv.nf;omega,HQ.out.2.2.2.2.2.1,HQ.out.1,SlvTo.refl _ _⟩⟩
    case round=>
     obtain⟨j,t,y⟩:=hrel;have s5:j<=2000000:=by have:=y.out.2.1;have:=y.out.2.2.2.1.n64;omega
     have c10:=y.out.2.2.2.1.cells.2.2.2.2.1;have n7:=zE (i:=10) y.out.2.2.2.1.cell;have l2:=lt_of_block y.out.2.2.2.1.cell;obtain⟨W4,i2⟩:∃W,wr.setCell ⟨K.sb,10,none⟩ (I ((j:Int)+1))=W:=⟨_,rfl⟩
     obtain⟨q1,q2⟩:=y.out.2.2.2.1.round i2;have H4:=Ja (Jb q1 (y.out.2.2.2.2.trans q2));clear q1 q2;go_upto_region 14 with fail;clear i2 c10 n7 l2;go_wp2
     go_loopw [11,82] (fun cv kv wx=>∃(m:Nat) (t2:Slv) (c:Bool),m<=od.length/\cv=.bool c/\kv=I m/\Hid ((od.take m).foldl (goS p bl (j+1)) (t,false)=(t2,c)/\SlvAt wx K p bl (j+1) t2/\SlvTo w8 wx K)) (fun _ kv _=>od.length-(intOf kv).toNat)
     case atStart=>exact⟨0,t,false,Jt _,rfl,rfl,Ja ⟨rfl,H4.out.1,H4.out.2⟩⟩
     case round=>
      obtain⟨m,t2,c,hm,rfl,rfl,u⟩:=hrel
      by_cases d:m<od.length
      ·have a2:(m:Int)<(od.length:Int):=Zo;obtain⟨i,hi⟩:∃i,od[m]? =some i:=⟨_,Jd d⟩
       have b5:=HQ.out.2.2.1.to u.out.2.2 HQ.out.2.2.2.1;have ci:=b5.cell hi;have s0:=b5.lt;have h8:i<bl.length:=(o.out.1.ord i).1 (by rw[a6.out.1];exact Ji hi);obtain⟨bx,c2⟩:∃b,bl[i]? =some b:=⟨_,Jd h8⟩
       obtain⟨t3,r,hq⟩:∃t3 r,dl p bl (j+1) (t2,false) bx=(t3,r):=⟨_,_,rfl⟩
       have p1:=Ja (show A 23 #[G K.sb,I i] wr (re wr K p bl (j+1) (t3,r)) from by
        have hw:=blkW_of o.out.1 o.out.2.1 h8;rw[<-d0.out,z6 c2] at hw;have:=aeX u.out.2.1 c2 hw;rw[hq] at this
        exact this)
       have HI:=Ja (Jb hi (Jb c2 (Jb hq d)));clear hi c2 hq b5 d;cases r
       all_goals go_wp2_with (go_at_call 23;go_must (refine p1.out.mono ?_;rintro e w9 ⟨rfl,h1,g5⟩;have H9:=Ja (Jb h1 g5);clear h1 g5))
       all_goals (
        go_roundw
        case rel=>exact⟨m+1,t3,_,HI.out.2.2.2,by first|rfl|(cases c<;>rfl),by go_num,Ja ⟨by rw[ti HI.out.1,u.out.1];unfold goS;rw[z6 HI.out.2.1,show(dl p bl (j+1) ((t2,c).1,false) bx)=_ from HI.out.2.2.1];first|rw[Bool.or_true]|rw[Bool.or_false],H9.out.1,u.out.2.2.trans H9.out.2⟩⟩
        case measure=>have:=HI.out.2.2.2;simp[intOf];omega)
      ·obtain rfl:m=od.length:=by omega
       have a2:¬(od.length:Int)<(od.length:Int):=Zo
       have HR:=Ja (show vu p bl od (j+1) t=(t2,c) by
        have:=u.out.1;rw[Nl] at this
        exact this)
       clear hm d;cases c
       ·have k1:=Ja (show t2=T by
         have:=y.out.2.2.1;rw[qy HQ.out.2.2.2.2.1 y.out.2.2.2.1.oks,HR.out,if_neg (fun h=>by cases h)] at this
         exact this)
        have c8:=u.out.2.1.cells.2.2.1;have h2:=lt_of_block u.out.2.1.cell;have s1:=u.out.2.1.n64;go_wp2;clear c8
        go_loopw [97] (fun kv wx=>∃m:Nat,m<=K.n/\kv=I m/\Hid (SlvAt wx K p bl (j+1) (tz t2 m)/\SlvTo w8 wx K)) (fun kv _=>K.n-(intOf kv).toNat)
        case atStart=>exact⟨0,Jt _,rfl,Ja ⟨u.out.2.1,u.out.2.2⟩⟩
        case round=>
         obtain⟨m,hm,rfl,HL⟩:=hrel;have c8:=HL.out.1.cells.2.2.1;have c9:=HL.out.1.cells.2.2.2.1;have h2:=lt_of_block HL.out.1.cell;have a1:=lt_of_block HL.out.1.row;have l3:=lt_of_block HL.out.1.kn
         by_cases d:m<K.n
         ·have a2:(m:Int)<(K.n:Int):=Zo;have kx:=wk HL.out.1 d;rw[afc] at kx
          cases hk:t2.knw (m:Int) with
          |true=>
           rw[hk] at kx;have HE:=Ja (aeY u.out.2.1.oks d hk);clear hk;go_wp2;go_roundw
           case rel=>exact⟨m+1,d,by go_num,Ja ⟨by rw[HE.out];exact HL.out.1,HL.out.2⟩⟩
           case measure=>simp[intOf];omega
          |false=>
           rw[hk] at kx;have HE:=Ja (afK u.out.2.1.oks d hk);clear hk;go_upto_region 25 with fail;clear c9 kx;obtain⟨r0,r1⟩:=HL.out.1.rcell (v:=(m:Int)) Zo;rw[Ni] at r0 r1;have HC:=Ja (show ∀W:World,W.heap[K.sb]? =wr.heap[K.sb]?->O W K.sb 8 (L K.rb K.n K.n) from fun W h=>zA (h.trans HL.out.1.cell) rfl);have e2:=HL.out.1.ne
           go_region_held3 (fun w'=>O w' K.sb 8 (L K.rb K.n K.n))
            ((refine HC.out _ ?_;repeat' (first|exact rfl|exact n1|rw[Below.heap_setCell _ _ _ _ (show K.sb≠K.rb by omega)]|rw[show ∀v:World,v.drew.heap=v.heap from fun _=>rfl])))
            ((go_at_call 20;refine(vt _).mono ?_;rintro e w5 ⟨rfl,a5⟩;have g1:Q wr w5:=Below.trans (show Q wr _ from by repeat' (first|with_reducible exact Below.refl _ _|with_reducible refine Below.drew ?_)) (a5.mono (Je _));clear a5;have n1:w5.heap[K.sb]? =wr.heap[K.sb]?:=g1.block _ h2;have b2:=Ja (HL.out.1.below g1);obtain⟨r2,r3⟩:=b2.out.rcell (v:=(m:Int)) Zo;rw[Ni] at r2 r3;have k9:=zE (i:=m*2) b2.out.row;have k7:=zE (i:=m*2+1) b2.out.row;have d6:=lt_of_block b2.out.row))
           all_goals go_wp2_with fail
           all_goals (
            obtain⟨W,hW⟩:∃W,(w5.setCell ⟨K.rb,m*2,none⟩ (M 0)).setCell ⟨K.rb,m*2+1,none⟩ (M 65535)=W:=⟨_,rfl⟩
            obtain⟨j1,j2⟩:=b2.out.putR d xf hW;rw[hW];clear r2 r3 k9 k7;have k2:=Ja (Jb j1 (((SlvTo.of_below g1).trans j2)));clear j1 j2 hW;go_roundw
            case rel=>exact⟨m+1,d,by go_num,Ja ⟨by rw[HE.out];exact k2.out.1.below (by first|exact Below.refl _ _|exact(Below.refl _ _).drew),HL.out.2.trans (k2.out.2.trans (SlvTo.of_below (by first|exact Below.refl _ _|exact(Below.refl _ _).drew)))⟩⟩
            case measure=>simp[intOf];omega)
         ·obtain rfl:m=K.n:=by omega
          have a2:¬(K.n:Int)<(K.n:Int):=Zo;have HE:=Ja (show tz t2 K.n=⟨xB p bl,t2.kn⟩ by rw[ae3 u.out.2.1.oks,HQ.out.2.2.2.2.2.2,k1.out]);have e4:(xB p bl).length=K.n:=by rw[HQ.out.2.2.2.2.2.2,<-k1.out];exact pn u.out.2.1.oks
          have o3:=Ja e4;clear hm d e4 c9;go_wp2
          try rw[Exit.noGoto_ret]
          go_ret;have d7:=HL.out.1.row;rw[HE.out] at d7;refine⟨K.rb,by rw[o3.out];rfl,d7,?_,?_⟩
          ·exact Jn l.out.1.size HK.out.2.2.1
          ·exact l.out.1.trans ((a3.out.2.2.trans (d1.out wr (HQ.out.2.1.trans HL.out.2))).mono l.out.1.size)
       ·go_wp2
        go_roundg (ql (j+1) t2)
        case measure=>
         have:=mn (p:=p) HQ.out.2.2.2.2.1 y.out.2.2.2.1.oks (k:=j) (by rw[HR.out]);rw[HR.out] at this;rw[y.out.1];exact this
        case rel=>
         refine⟨j+1,t2,Ja ⟨rfl,?_,?_,u.out.2.1,u.out.2.2⟩⟩
         ·have:=mn (p:=p) HQ.out.2.2.2.2.1 y.out.2.2.2.1.oks (k:=j) (by rw[HR.out]);rw[HR.out] at this;have h5:ql (j+1) t2<ql j t:=this;have:=y.out.2.1;omega
         ·have:=y.out.2.2.1;rw[qy HQ.out.2.2.2.2.1 y.out.2.2.2.1.oks,HR.out,if_pos rfl] at this;exact this
def afH (a:Int):List IOp:=[⟨1,1,0,0,15,[]⟩,⟨9,2,0,1,0,[]⟩,⟨2,3,0,0,0,[]⟩,⟨5,4,2,3,0,[]⟩,⟨a,5,4,0,0,[]⟩]
def afZ:List IBlk:=[⟨[],[],⟨5,0,[]⟩⟩]
def afl (a:Int):List IBlk:=[⟨[0],afH a,⟨4,5,[]⟩⟩]
def dp (a:Int):IProg:=⟨[afZ,afl a],[0,1],0,-1,[⟨-1,16384,16⟩],[]⟩
theorem yN.two{α:Type}{sz:Nat}{R:World->Nat->Nat->Nat->α->Prop}{B b:Nat}{x y:α}(hb:b<B)(d:R w B b 0 x)(c:R w B b sz y):yN sz R w B (L b 2 2) [x,y]:=by
 refine⟨_,2,rfl,Je _,by omega,fun k z hk=>⟨b,0,rfl,hb,?_⟩⟩
 match k,hk with
 |0,hk=>cases hk;rw[Ng,Nat.zero_mul];exact d
 |1,hk=>cases hk;rw[Ng,Nat.one_mul];exact c
def dx (o:IOp):IOp×Value:=(o,F)
theorem afr{B b n:Nat}{l:List IOp}{e:TypeId}(h:T w b ((l.map dx).flatMap zU).toArray e)(hb:b<B)(c:∀o∈l,qN o/\o.args=[])(d:n=l.length)(hl:l.length<=1000000):
 mN w B (L b n n) l:=by
 have:=afj (l:=l.map dx) h hb (fun q hq=>by
  obtain⟨o,ho,rfl⟩:=Nu.1 hq;obtain⟨g,f⟩:=c o ho;refine⟨g,?_⟩
  show zY w B (F) o.args
  rw[f]
  exact yN.nil) (by rw[Nr];exact hl)
 rw[Nr,List.map_map,show((fun q:IOp×Value=>q.1) ∘ dx)=id from rfl,List.map_id] at this;rw[d];exact this
theorem aa2 (w:World)(a:Int)(j:I64 a):A 13 #[I a] w (mL w (dp a)):=by
 have t:=Ja j;clear j;obtain⟨s,hs⟩:∃s,w.heap.size=s:=⟨_,rfl⟩
 go_enter Try.func13,Try.ntmps13;go_wp2;generalize c:World.alloc _ _=W;have hb:Below s w W:=by rw[<-c,<-hs];repeat' (first|exact Below.refl _ _|refine Below.alloc ?_ (by first|exact Je _|(simp;done)|(simp;omega)) _)
 have d:T W s #[L (s+1+1+1+1+1+1+1) 2 2,L (s+1+1+1+1+1+1+1+1) 2 2,I 0,I (-1),L (s+1+1+1+1+1+1+1+1+1) 1 1,F] 44:=by rw[<-c];repeat' (first|exact zI (by first|exact hs|rfl|(simp;done)|(simp;omega))|refine zB ?_)
 have q:T W (s+1) (((afH a).map dx).flatMap zU).toArray 27:=by rw[<-c];repeat' (first|exact zI (by first|exact hs|rfl|(simp;done)|(simp;omega))|refine zB ?_)
 have g:T W (s+1+1) #[F,F,I 5,I 0,F] 36:=by rw[<-c];repeat' (first|exact zI (by first|exact hs|rfl|(simp;done)|(simp;omega))|refine zB ?_)
 have m:T W (s+1+1+1+1) #[I 0] 3:=by rw[<-c];repeat' (first|exact zI (by first|exact hs|rfl|(simp;done)|(simp;omega))|refine zB ?_)
 have f:T W (s+1+1+1+1+1) #[L (s+1+1+1+1) 1 1,L (s+1) 5 5,I 4,I 5,F] 36:=by rw[<-c];repeat' (first|exact zI (by first|exact hs|rfl|(simp;done)|(simp;omega))|refine zB ?_)
 have l:T W (s+1+1+1+1+1+1+1) #[L (s+1+1) 1 1,L (s+1+1+1+1+1) 1 1] 39:=by rw[<-c];repeat' (first|exact zI (by first|exact hs|rfl|(simp;done)|(simp;omega))|refine zB ?_)
 have k:T W (s+1+1+1+1+1+1+1+1) #[I 0,I 1] 3:=by rw[<-c];repeat' (first|exact zI (by first|exact hs|rfl|(simp;done)|(simp;omega))|refine zB ?_)
 have h:T W (s+1+1+1+1+1+1+1+1+1) #[I (-1),M 16384,M 16] 55:=by rw[<-c];repeat' (first|exact zI (by first|exact hs|rfl|(simp;done)|(simp;omega))|refine zB ?_)
 clear c;have x:=lt_of_block h;refine bodyPost_ret (v:=.agg #[L (s+1+1+1+1+1+1+1) 2 2,L (s+1+1+1+1+1+1+1+1) 2 2,I 0,I (-1),L (s+1+1+1+1+1+1+1+1+1) 1 1,F]) ?_ rfl ?_
 ·have x0:=zA (i:=0) d rfl;have x1:=zA (i:=1) d rfl;have x2:=zA (i:=2) d rfl;have x3:=zA (i:=3) d rfl;have x4:=zA (i:=4) d rfl;have x5:=zA (i:=5) d rfl;have u:=lt_of_block d;rw[zM rfl];go_simp
 ·refine⟨⟨_,_,_,_⟩,rfl,⟨?_,?_,?_,yN.nil,pZ,afi⟩,by rw[hs];exact hb⟩
  ·refine yN.two Zo ⟨_,zA l rfl,yN.one Zo ?_⟩ ⟨_,zA l rfl,yN.one Zo ?_⟩
   ·exact⟨zA g rfl,zA g rfl,⟨⟨by decide,by decide⟩,⟨by decide,by decide⟩⟩,_,_,_,zA g rfl,zA g rfl,zA g rfl,yN.nil,yN.nil,yN.nil⟩
   ·refine⟨zA f rfl,zA f rfl,⟨(show I64 (4) from⟨by decide,by decide⟩),(show I64 (5) from⟨by decide,by decide⟩)⟩,_,_,_,zA f rfl,zA f rfl,zA f rfl,yN.one Zo ⟨zA m rfl,⟨by decide,by decide⟩⟩,afr q Zo (fun o ho=>?_) rfl (by show(5:Nat)<=_;omega),yN.nil⟩;simp only[afH,Jq,List.not_mem_nil,or_false] at ho;rcases ho with rfl|rfl|rfl|rfl|rfl
    ·exact⟨⟨⟨by decide,by decide⟩,⟨by decide,by decide⟩,⟨by decide,by decide⟩,⟨by decide,by decide⟩,by decide⟩,rfl⟩
    ·exact⟨⟨⟨by decide,by decide⟩,⟨by decide,by decide⟩,⟨by decide,by decide⟩,⟨by decide,by decide⟩,by decide⟩,rfl⟩
    ·exact⟨⟨⟨by decide,by decide⟩,⟨by decide,by decide⟩,⟨by decide,by decide⟩,⟨by decide,by decide⟩,by decide⟩,rfl⟩
    ·exact⟨⟨⟨by decide,by decide⟩,⟨by decide,by decide⟩,⟨by decide,by decide⟩,⟨by decide,by decide⟩,by decide⟩,rfl⟩
    ·exact⟨⟨t.out,(show I64 (5) from⟨by decide,by decide⟩),(show I64 (4) from⟨by decide,by decide⟩),(show I64 (0) from⟨by decide,by decide⟩),(show(0:Nat)<65536 by decide)⟩,rfl⟩
  ·exact yN.two Zo ⟨zA k rfl,⟨by decide,by decide⟩⟩ ⟨zA k rfl,⟨by decide,by decide⟩⟩
  ·exact yN.one Zo ⟨zA h rfl,zA h rfl,zA h rfl,⟨by decide,by decide⟩,by decide,by decide⟩
end Go.Proofs.Ytoahcpkibpomcaa
