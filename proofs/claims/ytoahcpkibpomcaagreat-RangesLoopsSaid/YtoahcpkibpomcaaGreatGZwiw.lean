/- Part of a proof. -/
import Derived.Test.YtoahcpkibpomcaaGreatGZw7w
set_option linter.all false
set_option maxHeartbeats 16000000
set_option maxRecDepth 100000
namespace Go.Proofs.YtoahcpkibpomcaaGreat
open Go.RowKit
variable {W w w':World}{j k:Nat}{u:Value}{g:List (List Nat)}{d:wO}{i:Int}{bl c:List IBlk}{o:IOp}{K:SK}
theorem wq {α:Type}(f:α->List Value)(n:Nat)(hf:∀a,(f a).length=n):∀l:List α,(l.flatMap f).length=l.length*n
 | []=>by simp
 |a::l=>by rw[Qa,Jk,hf,wq f n hf l,Nq,Nat.add_mul];omega
section
variable {α:Type} {f:α->List Value} {n:Nat} {w:World} {base g:Nat} {e:TypeId} {v:Value} {l:List α} {k:Nat} {b:α}
theorem z9 (hf:∀a,(f a).length=n)(h:w.ownsRow base e n v l.length (l.flatMap f))(hg:v.ownBlock=some g)(hk:l[k]? =some b):w.rangeAt g (k*n) (f b):=fun j u hj=>by
 have c:j<n:=by rw[<-hf b];exact(Jh.1 hj).1
 have h1:=h.cells hg (k*n+j) u ((uB f n hf l k b hk j c).trans hj);rw[Addr.add_mid,Ng] at h1;exact h1
theorem zq (m:0<n)(hf:∀a,(f a).length=n)(h:w.ownsRow base e n v l.length (l.flatMap f))(hg:v.ownBlock=some g)(hk:l[k]? =some b):w.there g (k*n) n:=fun j hj=>by
 refine⟨?_,?_⟩
 ·obtain⟨u,c⟩:∃u,(f b)[j]? =some u:=⟨_,Jd (by rw[hf];exact hj)⟩
  rw[z9 hf h hg hk j u c];rfl
 ·rcases h.2 with⟨rfl,_⟩|⟨g',i,cur,rfl,_,d,_⟩
  ·simp[Value.ownBlock] at hg
  ·simp[Value.ownBlock] at hg;subst hg;exact zE d
end
theorem vF{α:Type}{sz:Nat}{R:World->Nat->Nat->Nat->α->Prop}{B:Nat}{v:Value}{xs:List α}(h:yN sz R w B v xs){x:α}(c:x∈xs):∃b o,R w B b o x:=by
 obtain⟨k,hk⟩:=Ny c;obtain⟨a,d,rfl,_,_,h3⟩:=h;obtain⟨b,o,_,_,hr⟩:=h3 k x hk;exact⟨b,_,hr⟩
theorem rI{B:Nat}{v:Value}{xs:List Int}(h:zY w B v xs):∀x∈xs,I64 x:=fun x hx=>by
 obtain⟨b,o,hr⟩:=vF h hx;exact hr.2
theorem ProgIn.p64{B:Nat}{V:PV}{p:IProg}(h:ProgIn w B V p):P64 p:=by
 refine⟨fun f hf b hb=>?_,rI h.args,fun o ho=>?_,fun s hs=>?_,h.ent,h.hnd⟩
 ·obtain⟨x,y,bv,_,d⟩:=vF h.funcs hf;obtain⟨x,y,_,_,h3,pv,ov,tv,_,_,_,j,i,g⟩:=vF d hb;refine⟨rI j,fun o ho=>?_,h3,fun e he=>?_⟩
  ·obtain⟨x,y,_,_,_,_,_,k,av,_,c⟩:=vF i ho;exact⟨k,rI c⟩
  ·obtain⟨x,y,_,h2,av,_,c⟩:=vF g he;exact⟨h2,rI c⟩
 ·obtain⟨x,y,_,_,_,l⟩:=vF h.data ho;exact l
 ·obtain⟨x,y,h1,h2⟩:=vF h.banks hs;exact h2
theorem iI{α:Type}{f:α->List Value}{n:Nat}(hf:∀a,(f a).length=n){l:List α}{b a:α}(hk:l[k]? =some b)(d:j<n)(g:(f b).set j u=f a):(l.flatMap f).set (k*n+j) u=(l.set k a).flatMap f:=by
 have c:=(Jh.1 hk).1;have hb:l[k]=b:=(Jh.1 hk).2
 have e1:l=l.take k++b::l.drop (k+1):=by
  rw[<-hb,Ue,Qi]
 have hl:(l.take k).length=k:=by simp;omega
 have e2:l.set k a=l.take k++a::l.drop (k+1):=by
  rw[List.set_eq_take_append_cons_drop,if_pos c]
 have e3:l.flatMap f=(l.take k).flatMap f++(f b++(l.drop (k+1)).flatMap f):=by
  conv=>lhs;rw[e1]
  rw[Nx,Qa]
 have h:((l.take k).flatMap f).length=k*n:=by rw[wq f n hf,hl]
 rw[e2,e3,Nx,Qa,Uj _ _ Zo,h,Nat.add_sub_cancel_left,List.set_append_left _ _ (by rw[hf];exact d),g]
theorem yp{α:Type}{f:α->List Value}{n:Nat}{base g:Nat}{e:TypeId}{v:Value}{l:List α}{b a:α}(hf:∀a,(f a).length=n)(h:w.ownsRow base e n v l.length (l.flatMap f))(hg:v.ownBlock=some g)(hk:l[k]? =some b)(d:j<n)(i:(f b).set j u=f a):
 (w.setCell ⟨g,k*n+j,none⟩ u).ownsRow base e n v l.length ((l.set k a).flatMap f):=by
 refine⟨by rw[wq f n hf,Nd],?_⟩;rcases h.2 with⟨rfl,_⟩|⟨g',c,cur,rfl,h1,h2,h3,t,o,m⟩
 ·simp[Value.ownBlock] at hg
 ·simp[Value.ownBlock] at hg;subst hg;refine .inr ⟨g',c,_,rfl,h1,zD h2 u,h3,t,by simpa using o,?_⟩;rw[Array.toList_setIfInBounds,List.take_set,m];exact iI hf hk d i
theorem dC{k v:Int}(h:d.1 v=none):yy d g i k v=false:=by unfold yy;rw[h]
def aq (N:Nat)(b:IBlk):Prop:=(∀x∈b.params,0<=x/\x.toNat<N)/\(∀o∈b.ops,cS N o/\(0<=o.res->o.res.toNat<N))/\∀x∈mE b.term,0<=x/\x.toNat<N
structure UseProg (p:IProg):Prop where
 sz:∀bl∈p.funcs,vZ bl
 cnt:∀bl∈p.funcs,0<=aaG bl/\aaG bl<=65536
 blk:∀bl∈p.funcs,∀b∈bl,aq (aaG bl).toNat b
theorem bR{d':wO}{v k:Int}(h:rB d v i k=some d'):(0<=v/\v<=65535)/\∀x,(d'.1 x).isSome=true->(d.1 x).isSome=true∨x=v:=by
 unfold rB at h
 split at h
 ·cases h
 ·rename_i c
  cases h;refine⟨by omega,fun x hx=>?_⟩
  change (lS d.1 v i x).isSome=true at hx
  unfold lS at hx
  by_cases e:x=v
  ·exact .inr e
  ·rw[if_neg e] at hx;exact .inl hx
theorem cL:∀(l:List Int) (d d':wO),vJ i l d=some d'->(∀v∈l,0<=v/\v<=65535)/\∀x,(d'.1 x).isSome=true->(d.1 x).isSome=true∨x∈l
 | [],d,d',h=>by cases h;exact⟨(fun v hv=>by cases hv),fun x hx=> .inl hx⟩
 |v::l,d,d',h=>by
  unfold vJ at h
  cases h1:rB d v i (-1) with
  |none=>rw[h1] at h;cases h
  |some d1=>
   rw[h1,Nw] at h;obtain⟨k1,k2⟩:=bR h1;obtain⟨k3,k4⟩:=cL l d1 d' h;refine⟨fun x hx=>?_,fun x hx=>?_⟩
   ·rcases Jq.1 hx with rfl|hx
    ·exact k1
    ·exact k3 x hx
   ·rcases k4 x hx with h2|h2
    ·rcases k2 x h2 with h3|rfl
     ·exact .inl h3
     ·exact .inr (List.mem_cons_self ..)
    ·exact .inr (List.mem_cons_of_mem _ h2)
theorem bN{p:IProg}:∀(l:List IOp) (k:Int) (d d':wO),sS p i l k d=some d'->(∀o∈l,-1<=o.res/\o.res<=65535)/\∀x,(d'.1 x).isSome=true->(d.1 x).isSome=true∨∃o∈l,o.res=x/\0<=x
 | [],k,d,d',h=>by cases h;exact⟨(fun v hv=>by cases hv),fun x hx=> .inl hx⟩
 |o::l,k,d,d',h=>by
  rw[dG] at h
  cases h1:ug p i k o d with
  |none=>rw[h1] at h;cases h
  |some d1=>
   rw[h1,Nw] at h;obtain⟨k3,k4⟩:=bN l (k+1) d1 d' h
   have hs:(-1<=o.res/\o.res<=65535)/\∀x,(d1.1 x).isSome=true->(d.1 x).isSome=true∨(o.res=x/\0<=x):=by
    unfold ug at h1
    split at h1
    ·rename_i hf
     have:=ct hf
     split at h1
     ·rename_i c
      obtain⟨k1,k2⟩:=bR h1;refine⟨by omega,fun x hx=>?_⟩;rcases k2 x hx with h3|rfl
      ·exact .inl h3
      ·exact .inr ⟨rfl,c⟩
     ·cases h1;exact⟨by omega,fun x hx=> .inl hx⟩
    ·cases h1
   refine⟨fun x hx=>?_,fun x hx=>?_⟩
   ·rcases Jq.1 hx with rfl|hx
    ·exact hs.1
    ·exact k3 x hx
   ·rcases k4 x hx with h2|⟨o',h2,h3⟩
    ·rcases hs.2 x h2 with h3|h3
     ·exact .inl h3
     ·exact .inr ⟨o,List.mem_cons_self ..,h3⟩
    ·exact .inr ⟨o',List.mem_cons_of_mem _ h2,h3⟩
def ajk (l:List IBlk)(x:Int):Prop:=∃b∈l,x∈b.params∨∃o∈b.ops,o.res=x/\0<=x
def bC (l:List IBlk):Prop:=∀b∈l,(∀v∈b.params,0<=v/\v<=65535)/\∀o∈b.ops,-1<=o.res/\o.res<=65535
theorem cP{p:IProg}:∀(l:List IBlk) (i:Int) (d d':wO),uH p bl l i d=some d'->bC l/\∀x,(d'.1 x).isSome=true->(d.1 x).isSome=true∨ajk l x
 | [],i,d,d',h=>by cases h;exact⟨(fun v hv=>by cases hv),fun x hx=> .inl hx⟩
 |b::l,i,d,d',h=>by
  unfold uH at h
  cases h1:pS p bl i b d with
  |none=>rw[h1] at h;cases h
  |some d1=>
   rw[h1,Nw] at h;obtain⟨_,d2,h2,h3⟩:=nF h1;obtain⟨k1,k2⟩:=cL _ _ _ h2;obtain⟨k3,k4⟩:=bN _ _ _ _ h3;obtain⟨k5,k6⟩:=cP l (i+1) d1 d' h;refine⟨fun x hx=>?_,fun x hx=>?_⟩
   ·rcases Jq.1 hx with rfl|hx
    ·exact⟨k1,k3⟩
    ·exact k5 x hx
   ·rcases k6 x hx with j|⟨b',j,c⟩
    ·rcases k4 x j with c|c
     ·rcases k2 x c with g|g
      ·exact .inl g
      ·exact .inr ⟨b,List.mem_cons_self ..,.inl g⟩
     ·exact .inr ⟨b,List.mem_cons_self ..,.inr c⟩
    ·exact .inr ⟨b',List.mem_cons_of_mem _ j,c⟩
theorem ak {N:Int}(l:List Int):∀(n:Int),n<=N->(∀v∈l,cG v<=N)->qK n l<=N:=by
 induction l with
 |nil=>intro n h _;exact h
 |cons x l ih=>
  intro n h hl;have e:qK n (x::l)=qK (max n (cG x)) l:=rfl;rw[e];have:=hl x (List.mem_cons_self ..);exact ih _ Zo (fun v hv=>hl v (List.mem_cons_of_mem _ hv))
theorem aaf {N:Int}(l:List IOp):∀(n:Int),n<=N->(∀o∈l,cG o.res<=N)->o8 n l<=N:=by
 induction l with
 |nil=>intro n h _;exact h
 |cons x l ih=>
  intro n h hl;have e:o8 n (x::l)=o8 (max n (cG x.res)) l:=rfl;rw[e];have:=hl x (List.mem_cons_self ..);exact ih _ Zo (fun v hv=>hl v (List.mem_cons_of_mem _ hv))
theorem aia {N:Int}(l:List IBlk):∀(n:Int),n<=N->(∀b∈l,(∀v∈b.params,cG v<=N)/\∀o∈b.ops,cG o.res<=N)->l.foldl iL n<=N:=by
 induction l with
 |nil=>intro n h _;exact h
 |cons x l ih=>
  intro n h hl;rw[Qk];have h1:=hl x (List.mem_cons_self ..);exact ih _ (aaf _ _ (ak _ _ h h1.1) h1.2) (fun b hb=>hl b (List.mem_cons_of_mem _ hb))
theorem bD(h:bC bl):0<=aaG bl/\aaG bl<=65536:=by
 refine⟨bO bl,aia bl 0 Zo fun b hb=>⟨fun v hv=>?_,fun o ho=>?_⟩⟩
 ·have:=(h b hb).1 v hv;rw[aaY Zo Zo];omega
 ·have:=(h b hb).2 o ho;rw[aaY Zo Zo];omega
theorem dY(h:bC bl){x:Int}(c:ajk bl x):0<=x/\x.toNat<(aaG bl).toNat:=by
 obtain⟨b,hb,h1⟩:=c;have hg:=(agJ bl 0).2 b hb;have hs:=h b hb;have e:bl.foldl iL 0=aaG bl:=rfl;rw[e] at hg;rcases h1 with h1|⟨o,ho,rfl,d⟩
 ·have:=hg.1 x h1;have:=hs.1 x h1;rw[aaY Zo Zo] at *;omega
 ·have:=hg.2 o ho;have:=hs.2 o ho;rw[aaY Zo Zo] at *;omega
theorem dd{k v:Int}(h:yy d g i k v=true):(d.1 v).isSome=true:=by
 cases h1:d.1 v with
 |none=>rw[dC h1] at h;cases h
 |some b=>rfl
theorem dw{p:IProg}{n:Nat}(i:p.funcs[n]? =some bl)(h:yi p n=true):(0<=aaG bl/\aaG bl<=65536)/\∀b∈bl,aq (aaG bl).toNat b:=by
 cases bl with
 |nil=>exact⟨⟨by decide,by decide⟩,fun b hb=>by cases hb⟩
 |cons b0 bs=>
  obtain⟨_,d,m,hr⟩:=tF i h;obtain⟨k1,k2⟩:=cP (b0::bs) 0 _ d (show uH p (b0::bs) (b0::bs) 0 _=some d from m)
  have g:∀x,(d.1 x).isSome=true->0<=x/\x.toNat<(aaG (b0::bs)).toNat:=fun x hx=>by
   rcases k2 x hx with h1|h1
   ·cases h1
   ·exact dY k1 h1
  refine⟨bD k1,fun b hb=>?_⟩;obtain⟨j,l⟩:=Ny hb;unfold iM at hr;rw[Jm] at hr;have c:=(cB _ 0).1 hr.2 j b l;unfold aaC at c;rw[Jm] at c;refine⟨fun x hx=>dY k1 ⟨b,hb,.inl hx⟩,fun o ho=>⟨fun x hx=>?_,fun h0=>(dY k1 ⟨b,hb,.inr ⟨o,ho,rfl,h0⟩⟩).2⟩,fun x hx=>?_⟩
  ·obtain⟨k,hk⟩:=Ny ho;exact g x (dd (Oe.1 ((dF _ 0).1 c.1 k o hk) x hx))
  ·exact g x (dd (Oe.1 c.2 x hx))
theorem aM {p:IProg}(h:vC p=0)(hs:∀f∈p.funcs,vZ f):UseProg p:=by
 obtain⟨_,hf⟩:=rz h
 have c:∀bl∈p.funcs,(0<=aaG bl/\aaG bl<=65536)/\∀b∈bl,aq (aaG bl).toNat b:=fun bl hb=>by
  obtain⟨n,d⟩:=Ny hb;exact dw d (hf n (Jh.1 d).1)
 exact⟨hs,fun bl hb=>(c bl hb).1,fun bl hb=>(c bl hb).2⟩
def lx (o:IOp):Bool:=decide (18<=o.code) && decide (o.code<=21)
theorem aiy(h:lx o=true):(zi o.code).a=true:=by
 unfold lx at h;simp only[Jm,decide_eq_true_eq] at h;have:o.code=18∨o.code=19∨o.code=20∨o.code=21:=Zo;rcases this with e|e|e|e<;>rw[e]<;>rfl
theorem ahU{i:Nat}(hi:i<bl.length):succ (zy bl) i=(xz bl i).term.to.map fun e=>e.block.toNat:=by
 obtain⟨b,hb⟩:∃b,bl[i]? =some b:=⟨_,Jd hi⟩
 rw[z6 hb];unfold succ zy;rw[Jj,Jr,hb];rfl
def ajI (bl:List IBlk):List IOp:=(bl.flatMap (·.ops)).filter lx
def aik (o:IOp):Int:=if o.code=18∨o.code=20 then 2 else 1
def ae8:List IObj->Int->Rg->Int->Int
 | [],_,_,_=>-1
 |o::os,k,a,n=>if o.bank=-1/\o.addr<=a.lo/\(a.hi:Int)+n<=(o.addr:Int)+o.size then k else ae8 os (k+1) a n
def ahA (data:List IObj)(R:List Rg)(o:IOp):Int:=ae8 data 0 (R.getD o.a.toNat ⟨0,0⟩) (aik o)
def aeH (data:List IObj)(R:List Rg)(bl:List IBlk):List Int:=(ajI bl).map (ahA data R)
def fnT (p:IProg)(bl:List IBlk):Slv:=ajz p bl (vD (zy bl)) 0 (aeM (aaG bl).toNat (xz bl (0:Nat)).params)
def vp (p:IProg)(bl:List IBlk):List Rg:=afa (fnT p bl)
structure FnS (p:IProg) (bl:List IBlk):Prop where
 st:StF p bl
 cnt:0<=aaG bl/\aaG bl<=65536
 rng:∀i:Nat,i<bl.length->(∀x∈(xz bl i).params,0<=x/\x.toNat<(aaG bl).toNat)/\∀o∈(xz bl i).ops,cS (aaG bl).toNat o/\(0<=o.res->o.res.toNat<(aaG bl).toNat)
 num:∀i:Nat,i<bl.length->∀o∈(xz bl i).ops,o.n<65536
theorem FnS.sol{p:IProg}(h:FnS p bl):∀i:Nat,i<bl.length->aeB (aaG bl).toNat bl (xz bl i):=fun i hi=>by
 refine⟨fun o ho h0=>⟨(h.rng i hi).2 o ho|>.2 h0,?_,fun _=>h.num i hi o ho⟩,fun e he x hx=>?_⟩
 ·have:=(ahl (h.st.opok i hi o ho)).1;omega
 ·have c:=h.st.trm i hi;unfold mb at c;rw[Jm,Oe] at c;have d:=c.1 e he;unfold uM at d;simp only[Jm,decide_eq_true_eq] at d;have:=(h.rng e.block.toNat Zo).1;rw[show((e.block.toNat:Nat):Int)=e.block by omega] at this;exact(this x hx).2
theorem FnS.ord{p:IProg}(h:FnS p bl)(i:Nat):i∈vD (zy bl)↔i<bl.length:=by
 obtain⟨ns,d⟩:=adR h.st.vg;rw[d.eq];constructor
 ·intro c;have:=d.lt i c
  rwa [xu] at this
 ·intro c;exact(d.mem i).2 (h.st.all i c)
theorem FnS.pos{p:IProg}(h:FnS p bl):0<bl.length:=by have:=h.st.vg.1;rwa [xu] at this
theorem FnS.end{p:IProg}(h:FnS p bl):EndOk p (aaG bl).toNat bl (vD (zy bl)) (aeM (aaG bl).toNat (xz bl (0:Nat)).params) (fnT p bl):=
 end_ok' (fun i hi=>h.sol i ((h.ord i).1 hi)) (start_ok fun v hv=>((h.rng 0 h.pos).1 v hv).2)
theorem agq{p:IProg}(hv:vC p=0)(hs:∀f∈p.funcs,vZ f)(h64:P64 p){n:Nat}(c:p.funcs[n]? =some bl)(j:bl≠ []):FnS p bl:=by
 obtain⟨_,hf⟩:=rz hv;have d:=Ji c;obtain⟨h,g⟩:=dw c (hf n (Jh.1 c).1);refine⟨stF_of c j (hf n (Jh.1 c).1),h,fun i hi=>?_,fun i hi o ho=>?_⟩
 ·obtain⟨b,hb⟩:∃b,bl[i]? =some b:=⟨_,Jd hi⟩
  rw[z6 hb];have:=g b (Ji hb);exact⟨this.1,this.2.1⟩
 ·obtain⟨b,hb⟩:∃b,bl[i]? =some b:=⟨_,Jd hi⟩
  rw[z6 hb] at ho;exact((h64.funcs bl d b (Ji hb)).ops o ho).1.2.2.2.2
theorem aiz{p:IProg}{g:List IBlk}{s:Slv}(h:SlvAt w K p g k s)(av:Value)(h64:I64 o.code)(i:o.n<65536)(c:o.code=2->0<=o.a/\o.a<p.data.length)
 (d:o.code≠1->o.code≠2->ruG o.code≠none->(0<=o.a/\o.a<K.n)/\0<=o.b/\o.b<K.n):
 G 96 #[Q K.sb,aam o av] w (mo w (afO p s o)):=by
 by_cases h1:o.code=1
 ·exact ahE _ av h1 p s
 by_cases h2:o.code=2
 ·exact aiu h av h2 (c h2) i
 cases hr:ruG o.code with
 |none=>exact ahC h av h1 h2 h64 hr
 |some f=>
  obtain⟨j,hb⟩:=d h1 h2 (by rw[hr];exact fun e=>by cases e);exact ahF h av h1 h2 h64 hr j hb
structure SlvTo (w w':World) (K:SK):Prop where
 os:w'.os=w.os
 tape:w'.tape=w.tape
 output:w'.output=w.output
 size:w.heap.size<=w'.heap.size
 block:∀i,i<w.heap.size->i≠K.rb->i≠K.kb->i≠K.sb->w'.heap[i]? =w.heap[i]?
theorem SlvTo.refl (w:World)(K:SK):SlvTo w w K:=⟨rfl,rfl,rfl,Je _,fun _ _ _ _ _=>rfl⟩
theorem SlvTo.trans{w1 w2:World}(h:SlvTo w w1 K)(d:SlvTo w1 w2 K):SlvTo w w2 K:=
 ⟨d.os.trans h.os,d.tape.trans h.tape,d.output.trans h.output,Jn h.size d.size,fun i hi a b c=>(d.block i (Jy hi h.size) a b c).trans (h.block i hi a b c)⟩
theorem SlvTo.of_below(h:N w w'):SlvTo w w' K:=⟨h.os,h.tape,h.output,h.size,fun i hi _ _ _=>h.block i hi⟩
theorem SlvTo.below(h:SlvTo w w' K){B:Nat}(hB:B<=K.rb/\B<=K.kb/\B<=K.sb/\B<=w.heap.size):Below B w w':=
 ⟨h.os,h.tape,h.output,h.size,fun i hi=>h.block i Zo Zo Zo Zo⟩
theorem ahM (l:List Rg)(v:Nat)(a:Rg)(h:v<l.length):(((l.flatMap ro).toArray.setIfInBounds (v*2) (Y (a.lo:Int))).setIfInBounds (v*2+1) (Y (a.hi:Int)))=((l.set v a).flatMap ro).toArray:=by
 simp only[Jc]
 congr 1
 induction l generalizing v with
 |nil=>simp at h
 |cons x l ih=>
  cases v with
  |zero=>rfl
  |succ v=>
   have:=ih v (by simpa using h);rw[show(v+1)*2=v*2+1+1 by omega];simp only[Qa,Jg];rw[<-this];rfl
theorem afR{p:IProg}{s:Slv}(h:SlvAt w K p c k s){v:Nat}(hv:v<K.n):A w K.kb v (.bool (s.knw v)):=by
 refine zA h.kn ?_;have hl:v<s.kn.length:=by rw[h.oks.kl];exact hv
 unfold Slv.knw;simp[Jj,Jd hl,hl]
theorem SlvAt.put{X:World}{p:IProg}{j:List IBlk}{s:Slv}(h:SlvAt X K p j k s){v:Nat}(hv:v<K.n){a:Rg}(u:a.ok)
 (d:((X.setCell ⟨K.kb,v,none⟩ (.bool true)).setCell ⟨K.rb,v*2,none⟩ (Y (a.lo:Int))).setCell ⟨K.rb,v*2+1,none⟩ (Y (a.hi:Int))=W):
 SlvAt W K p j k (s.put v a)/\SlvTo X W K:=by
 have m:=h.ne;have c:=h.lt;have o:=zD (i:=v) h.kn (.bool true)
 have t:W.heap[K.kb]? =(X.setCell ⟨K.kb,v,none⟩ (.bool true)).heap[K.kb]?:=by
  rw[<-d,Below.heap_setCell _ _ _ _ (by show K.kb≠K.rb;omega),Below.heap_setCell _ _ _ _ (by show K.kb≠K.rb;omega)]
 have l:O (X.setCell ⟨K.kb,v,none⟩ (.bool true)) K.rb (s.r.flatMap ro).toArray 45:=by
  rw[Below.heap_setCell _ _ _ _ (by show K.rb≠K.kb;omega)];exact h.row
 have g:=zD (i:=v*2+1) (zD (i:=v*2) l (Y (a.lo:Int))) (Y (a.hi:Int));rw[d] at g
 have hb:Below K.B X W:=by
  rw[<-d];exact(((Below.refl K.B X).setCell c.2.2.1 _).setCell c.2.1 _).setCell c.2.1 _
 have ho:∀i,i≠K.rb->i≠K.kb->W.heap[i]? =X.heap[i]?:=fun i h1 h2=>by
  rw[<-d,Below.heap_setCell _ _ _ _ h1,Below.heap_setCell _ _ _ _ h1,Below.heap_setCell _ _ _ _ h2]
 refine⟨⟨h.prog.below hb,h.blks.below yT hb,h.map.same (ho _ Zo Zo),(ho _ Zo Zo).trans h.cell,?_,?_,h.oks.put _ u,h.n64,c,m⟩,⟨hb.os,hb.tape,hb.output,hb.size,fun i _ h1 h2 _=>ho i h1 h2⟩⟩
 ·have:=ahM s.r v a (by rw[h.oks.rl];exact hv);rw[show(s.put (v:Int) a).r=s.r.set v a from rfl,<-this];exact g
 ·rw[t,o,show(s.put (v:Int) a).kn=s.kn.set v true from rfl];simp[Ox]
def agv (w:World)(K:SK)(p:IProg)(bls:List IBlk)(k:Nat)(q:Slv×Bool)(e:Ending)(w':World):Prop:=e=.returned (.bool q.2)/\SlvAt w' K p bls k q.1/\SlvTo w w' K
theorem hull_lit (w:World)(a b:Rg):G 92 #[.agg #[Y (a.lo:Int),Y (a.hi:Int)],.agg #[Y (b.lo:Int),Y (b.hi:Int)]] w (fun e w'=>e=.returned (.agg #[Y ((aeR a b).lo:Int),Y ((aeR a b).hi:Int)])/\N w w'):=hull_any w a b
def agA (w wx:World)(a:Rg):Prop:=N w wx/\O wx w.heap.size #[Y (a.lo:Int),Y (a.hi:Int)] 45/\w.heap.size<wx.heap.size
theorem agA.put{wx:World}{a:Rg}(h:agA w wx a)(b:Rg):agA w ((wx.setCell ⟨w.heap.size,0,none⟩ (Y (b.lo:Int))).setCell ⟨w.heap.size,1,none⟩ (Y (b.hi:Int))) b:=by
 have c:=zD (i:=1) (zD (i:=0) h.2.1 (Y (b.lo:Int))) (Y (b.hi:Int));exact⟨(h.1.setCell (Je _) _).setCell (Je _) _,c,lt_of_block c⟩
theorem agA.to{W':World}{a:Rg}(h:agA w W a)(hb:N W W'):agA w W' a:=⟨h.1.trans (hb.mono (Qd h.2.2)),zH hb h.2.1 h.2.2,Jy h.2.2 hb.size⟩
theorem ahz{p:IProg}{b5:List IBlk}{s:Slv}(h:SlvAt w K p b5 k s){v:Nat}(hv:v<K.n){a0:Rg}(ha:a0.ok)(hh:(aeR a0 (s.get v)).ok):
 G 38 #[Q K.sb,U v,.agg #[.int .u16 (a0.lo:Int),.int .u16 (a0.hi:Int)]] w (agv w K p b5 k (setF k s v a0)):=by
 have a5:=afR h hv;have x:=fun(W:World) (hW:N w W)=>(h.below hW).rcell (v:=(v:Int)) Zo
 obtain⟨Z,j⟩:∃Z,setF k s v a0=Z:=⟨_,rfl⟩
 have hF:=j;unfold setF at hF;rw[j];generalize hg:s.get (v:Int)=g at *;obtain⟨q,hq⟩:∃q,aeR a0 g=q:=⟨_,rfl⟩
 obtain⟨kn,a6⟩:∃b,s.knw (v:Int)=b:=⟨_,rfl⟩
 rw[a6] at hF a5;rw[hq] at hF hh;have HH:=Ja (fun W=>hull_lit W a0 g);rw[hq] at HH;have HF:=Ja hF.symm;rw[Ni] at x;have H:=Ja (Jb h (Jb ha hh));have HK:=Ja (fun(W:World) (hW:N w W)=>(h.below hW).cells.2.2.2.2.1);have hn:=h.n64;have c4:=h.ne;obtain⟨s4,s7,s8,s9,s10,s6⟩:=h.cells;have m:=Ja (show ∀W:World,N w W->A W K.sb 8 (F K.rb K.n K.n)/\A W K.rb (v*2) (.int .u16 (g.lo:Int))/\A W K.rb (v*2+1) (.int .u16 (g.hi:Int)) from fun W hb=>⟨(h.below hb).cells.2.2.1,(x W hb).1,(x W hb).2⟩);have l1:=lt_of_block h.cell;have l2:=lt_of_block h.row;have l3:=lt_of_block h.kn;clear h ha hh hF j a6 s4 s7 s6 s8 s10 x hg hq;go_enter Tryz.func38,Tryz.ntmps38
 go_upto_if 13 with(go_at_call 999999;skip)
 obtain⟨X,hX⟩:∃X,w.alloc (I #[.int .u16 (a0.lo:Int),.int .u16 (a0.hi:Int)] 45)=X:=⟨_,rfl⟩
 have c:=Ja (show agA w X a0 from by rw[<-hX];exact⟨Below.alloc (Below.refl _ _) (Je _) _,zI rfl,by simp⟩);rw[hX];clear hX a5 s9
 go_cut [] (fun wx=>∃a:Rg,Hid (a.ok/\Z=(s.put v (aiR k a),true)/\agA w wx a))
 case first=>
  cases kn
  ·go_wp2;go_meet;exact⟨a0,Ja ⟨H.out.2.1,HF.out,c.out⟩⟩
  ·obtain⟨c0,c1,c2⟩:=m.out X c.out.1;have x0:=zA (i:=0) c.out.2.1 rfl;have x1:=zA (i:=1) c.out.2.1 rfl;have b7:=c.out.2.2;go_upto_region 2 with(go_at_call 999999;skip)
   refine wp_region_noPanic ?_;refine yQ (S:=(fun w'=>A w' K.sb 8 (F K.rb K.n K.n)/\A w' K.rb (v*2) (.int .u16 (g.lo:Int))/\A w' K.rb (v*2+1) (.int .u16 (g.hi:Int))/\A w' w.heap.size 0 (.int .u16 (a0.lo:Int))/\A w' w.heap.size 1 (.int .u16 (a0.hi:Int)))) 9 Zk ⟨c0,c1,c2,x0,x1⟩ (fun hHeld=>?_);refine Tl 0 ?_
   try simp only[Yp]
   refine Tl 1 ?_
   try simp only[Yp]
   refine Tl 2 ?_
   try simp only[Yp]
   refine Tl 3 ?_
   try simp only[Yp]
   refine Tl 4 ?_
   try simp only[Yp]
   refine Tl 5 ?_
   try simp only[Yp]
   refine Tl 6 ?_
   try simp only[Yp]
   refine Tl 7 ?_
   try simp only[Yp]
   refine z8 (rs:=[8]) Zk Zs ?_;refine zS.cons (o:=_) rfl (fun K hK=>?_) ?_
   ·skip
    (go_simp;refine(HH.out _).mono ?_;rintro e w1 ⟨rfl,y⟩;have b3:N X w1:=(Below.refl X.heap.size X).drew.trans y;clear y;have HY:=Ja (c.out.to b3);have hk:=HY.out.2.1;have f0:=zA (i:=0) hk rfl;have f1:=zA (i:=1) hk rfl;have g0:=zE (i:=0) hk;have g1:=zE (i:=1) hk;have a4:=lt_of_block hk;have a2:=m.out w1 HY.out.1)
    refine hK.out _ _ ⟨a2.1,a2.2.1,a2.2.2,f0,f1⟩ (fun hHeld=>?_);clear hK K
    try simp only[Yp]
    refine z8 (rs:=[9]) Zk Zs ?_;refine zS.last (o:=_) rfl (fun K hK=>?_);go_simp;refine hK.out _ _ ?_;clear hK K
    try simp only[Yp]
    refine xj Zk (NoPanic.normal ?_) _;go_upto_region 3 with(go_at_call 999999;skip)
    obtain⟨Y,hY⟩:∃Y,(w1.setCell ⟨w.heap.size,0,none⟩ (.int .u16 (q.lo:Int))).setCell ⟨w.heap.size,1,none⟩ (.int .u16 (q.hi:Int))=Y:=⟨_,rfl⟩
    have l:=Ja (HY.out.put q);rw[hY] at l ⊢;clear hY hk f0 f1 g0 g1 a4 b3 a2 c0 c1 c2 x0 x1 b7
    have b6:=Ja (show ∀W:World,N Y W->A W K.sb 8 (F K.rb K.n K.n)/\A W K.rb (v*2) (.int .u16 (g.lo:Int))/\A W K.rb (v*2+1) (.int .u16 (g.hi:Int))/\A W w.heap.size 0 (.int .u16 (q.lo:Int))/\A W w.heap.size 1 (.int .u16 (q.hi:Int)) from fun W hb=>by
     have h1:=l.out.to hb;have h2:=m.out W h1.1
     exact⟨h2.1,h2.2.1,h2.2.2,zA h1.2.1 rfl,zA h1.2.1 rfl⟩)
    obtain⟨c0,c1,c2,x0,x1⟩:=b6.out Y (Below.refl _ _);obtain⟨b0,e0⟩:∃b,((q.lo:Int)==(g.lo:Int))=b:=⟨_,rfl⟩
    obtain⟨b1,e1⟩:∃b,((q.hi:Int)==(g.hi:Int))=b:=⟨_,rfl⟩
    have d:=Ja (show Z=if(b0 && b1)=true then(s,false) else(s.put v (aiR k q),true) by
     have:(b0 && b1)=afq q g:=by
      rw[<-e0,<-e1,Bool.eq_iff_iff];unfold afq;simp only[Jm,beq_iff_eq,decide_eq_true_eq];omega
     rw[this];exact HF.out)
    cases b0<;>cases b1
    all_goals go_region_held3 (fun w'=>A w' K.sb 8 (F K.rb K.n K.n)/\A w' K.rb (v*2) (.int .u16 (g.lo:Int))/\A w' K.rb (v*2+1) (.int .u16 (g.hi:Int))/\A w' w.heap.size 0 (.int .u16 (q.lo:Int))/\A w' w.heap.size 1 (.int .u16 (q.hi:Int)))
     ((refine b6.out _ ?_;repeat' (first|with_reducible exact Below.refl _ _|with_reducible assumption|with_reducible refine Below.drew ?_)))
     (fail)
    all_goals go_wp2
    rotate_right
    ·go_ret;rw[show Z=(s,false) from d.out];exact⟨rfl,H.out.1.below l.out.1.drew,SlvTo.of_below l.out.1.drew⟩
    all_goals go_meet
    all_goals exact⟨q,Ja ⟨H.out.2.2,d.out,l.out.to (Below.refl _ _).drew⟩⟩
   exact zS.nil
 case rest=>
  obtain⟨a1,u⟩:=hcut;obtain⟨a,hz⟩:∃a,aiR k a1=a:=⟨_,rfl⟩
  have j:=u.out.2.1;rw[hz] at j;have l:=Ja j;have a3:a.ok:=hz ▸ ag1 u.out.1;have b2:a=if 4<k then vu else a1:=hz.symm
  obtain⟨t,ht⟩:∃t,decide ((4:Int)<(k:Int))=t:=⟨_,rfl⟩
  have a8:a=if t=true then vu else a1:=by
   rw[b2,<-ht]
   by_cases e:4<k
   ·rw[if_pos e,if_pos (decide_eq_true Zo)]
   ·rw[if_neg e,if_neg Zt]
  have HT:=Ja a8;have HO:=Ja a3;obtain⟨X1,b4⟩:∃X,wc=X:=⟨_,rfl⟩
  rw[b4] at u ⊢;clear b4 HF c HH j hz b2 a8 a3;have s10:=HK.out _ u.out.2.2.1
  go_upto_if 36 with(go_at_call 999999;skip)
  clear s10 ht
  go_cut [] (fun wx=>Hid (agA w wx a))
  case first=>
   cases t
   ·go_wp2;go_meet;exact Ja (by rw[show a=a1 from HT.out];exact u.out.2.2)
   ·go_wp2_with (go_at_call 39;go_must (refine(em _).mono ?_;rintro e w1 ⟨rfl,y⟩;have HB:=Ja (u.out.2.2.to y);have hk:=HB.out.2.1;have f0:=zA (i:=0) hk rfl;have f1:=zA (i:=1) hk rfl;have g0:=zE (i:=0) hk;have g1:=zE (i:=1) hk;have a4:=lt_of_block hk))
    go_meet;exact Ja (by rw[show a=vu from HT.out];exact HB.out.put vu)
  case rest=>
   obtain⟨X,hX⟩:∃X,wc=X:=⟨_,rfl⟩
   have c:=hcut;rw[hX] at c ⊢;clear hX hcut u HT HK m;go_upto_region 7 with(go_at_call 999999;skip)
   have d:=Ja (H.out.1.below c.out.1);have m:=Ja (show ∀W:World,W.heap[K.sb]? =X.heap[K.sb]?->W.heap[w.heap.size]? =X.heap[w.heap.size]?->A W K.sb 8 (F K.rb K.n K.n)/\A W K.sb 9 (F K.kb K.n K.n)/\A W w.heap.size 0 (.int .u16 (a.lo:Int))/\A W w.heap.size 1 (.int .u16 (a.hi:Int)) from fun W h1 h2=>⟨zA (h1.trans d.out.cell) rfl,zA (h1.trans d.out.cell) rfl,zA (h2.trans c.out.2.1) rfl,zA (h2.trans c.out.2.1) rfl⟩);obtain⟨c0,c1,c2,c3⟩:=m.out X rfl rfl;have kx:=afR d.out hv;have kf:=zE (i:=v) d.out.kn;obtain⟨r0,r1⟩:=d.out.rcell (v:=(v:Int)) Zo;rw[Ni] at r0 r1;have b9:=zE (i:=v*2) d.out.row;have b8:=zE (i:=v*2+1) d.out.row;have m1:=lt_of_block d.out.cell;have m2:=lt_of_block d.out.row;have m3:=lt_of_block d.out.kn;have m4:=c.out.2.2;go_region_held3 (fun w'=>A w' K.sb 8 (F K.rb K.n K.n)/\A w' K.sb 9 (F K.kb K.n K.n)/\A w' w.heap.size 0 (.int .u16 (a.lo:Int))/\A w' w.heap.size 1 (.int .u16 (a.hi:Int))) ((refine m.out _ ?_ ?_<;>(repeat' (first|(rw[Below.heap_setCell _ _ _ _ (by first|(show K.sb≠K.kb;omega)|(show K.sb≠K.rb;omega)|(show w.heap.size≠K.kb;omega)|(show w.heap.size≠K.rb;omega))])|(rw[show ∀v:World,v.drew.heap=v.heap from fun _=>rfl])|exact rfl)))) (fail)
   all_goals go_wp2
   all_goals (
    obtain⟨W,hW⟩:∃W,((X.setCell ⟨K.kb,v,none⟩ (.bool true)).setCell ⟨K.rb,v*2,none⟩ (.int .u16 (a.lo:Int))).setCell ⟨K.rb,v*2+1,none⟩ (.int .u16 (a.hi:Int))=W:=⟨_,rfl⟩
    rw[hW];obtain⟨j1,j2⟩:=d.out.put hv HO.out hW;go_ret;rw[l.out]
    exact⟨rfl,j1.below (Below.refl _ _).drew,((SlvTo.of_below c.out.1).trans j2).trans (SlvTo.of_below (Below.refl _ _).drew)⟩)
def BlkOp (n:Nat)(p:IProg)(o:IOp):Prop:=0<=o.res->ahy n o/\(o.code=2->0<=o.a/\o.a<p.data.length)/\(o.code≠1->o.code≠2->ruG o.code≠none->(0<=o.a/\o.a<n)/\0<=o.b/\o.b<n)
def BlkEdge (n:Nat)(bls:List IBlk)(e:IEdge):Prop:=(0<=e.block/\e.block<bls.length)/\e.args.length=(xz bls e.block).params.length/\(∀x∈e.args,0<=x/\x<n)/\∀x∈(xz bls e.block).params,0<=x/\x<n
structure BlkW (n:Nat) (p:IProg) (bls:List IBlk) (b:IBlk):Prop where
 ops:∀o∈b.ops,BlkOp n p o
 tos:∀e∈b.term.to,BlkEdge n bls e
theorem SlvTo.blk(h:SlvTo w w' K){b:Nat}{o:_}(hb:w.heap[b]? =some o)(d:b<w.heap.size)(c:b≠K.rb/\b≠K.kb/\b≠K.sb):w'.heap[b]? =some o:=(h.block b d c.1 c.2.1 c.2.2).trans hb
theorem SlvAt.fresh{p:IProg}{s:Slv}(h:SlvAt w K p c k s){b:Nat}(hb:w.heap.size<=b):b≠K.rb/\b≠K.kb/\b≠K.sb:=by
 have:=lt_of_block h.row;have:=lt_of_block h.kn;have:=lt_of_block h.cell;omega
theorem SlvAt.keepB{p:IProg}{s:Slv}(h:SlvAt w K p c k s)(ht:SlvTo w w' K):Below K.B w w':=
 ht.below ⟨h.lt.2.1,h.lt.2.2.1,h.lt.1,Qd (Nat.lt_of_le_of_lt h.lt.1 (lt_of_block h.cell))⟩
theorem e8{α β:Type}{f:β->α->β}{l:List α}{x:α}(h:l[k]? =some x)(b:β):(l.take (k+1)).foldl f b=f ((l.take k).foldl f b) x:=by
 rw[Nh,h,List.foldl_append];rfl
theorem aio{p:IProg}{g:List IBlk}{s:Slv}(h:SlvAt w K p g k s){i:Nat}{bx:IBlk}(c4:g[i]? =some bx)(f5:BlkW K.n p g bx):
 G 42 #[Q K.sb,U i] w (agv w K p g k (agS p g k (s,false) bx)):=by
 obtain⟨fa,fc,c1,k3,k2⟩:=h.blks.form;have b0:=h.blks;rw[c1] at b0;obtain⟨bb,bo,rfl,k4,g2,g3,h64,pv,ov,tv,g0,g1,g4,a1,b7,b5⟩:=b0.get c4;obtain⟨pa,pc,rfl,j0,i8⟩:=a1.form;obtain⟨oa,oc,rfl,j1,l8⟩:=b7.form;obtain⟨ta,tc,rfl,h9,l2⟩:=b5.form;have m2:=(Jh.1 c4).1;have l9:bx.ops.length<=9223372036854775807:=Zo;have l3:bx.term.to.length<=9223372036854775807:=Zo;have c6:=h.cells.2.2.2.2.2;rw[c1] at c6;have f3:=lt_of_block h.cell;have k9:bb<w.heap.size:=Jy k4 (Qd (Nat.lt_of_le_of_lt h.lt.1 f3));obtain⟨X,hX⟩:∃X,w.alloc (I #[.slice pa bx.params.length pc,.slice oa bx.ops.length oc,U bx.term.kind,U bx.term.a,.slice ta bx.term.to.length tc] 84)=X:=⟨_,rfl⟩
 have a6:N w X:=by rw[<-hX];exact(Below.refl _ _).alloc (Je _) _
 have c7:O X w.heap.size #[.slice pa bx.params.length pc,.slice oa bx.ops.length oc,U bx.term.kind,U bx.term.a,.slice ta bx.term.to.length tc] 84:=by rw[<-hX];exact zI rfl
 have hB:K.B<=w.heap.size:=Qd (Nat.lt_of_le_of_lt h.lt.1 f3)
 have HX:=Ja (show SlvAt X K p g k s/\SlvTo w X K/\O X w.heap.size #[.slice pa bx.params.length pc,.slice oa bx.ops.length oc,U bx.term.kind,U bx.term.a,.slice ta bx.term.to.length tc] 84/\mN X K.B (.slice oa bx.ops.length oc) bx.ops/\wH X K.B (.slice ta bx.term.to.length tc) bx.term.to/\N w X/\w.heap.size<X.heap.size/\K.B<=w.heap.size from
  ⟨h.below a6,SlvTo.of_below a6,c7,b7.below xA (a6.mono hB),b5.below xL (a6.mono hB),a6,lt_of_block c7,hB⟩)
 have HW:=Ja (Jb h (Jb f5 (Jb c4 c1)));have m1:=k2;obtain⟨t6,f2⟩:∃t6,w.heap.size=t6:=⟨_,rfl⟩
 clear h f5 c4 c1 b0 h64 a1 b7 b5 a6 c7 k3 j0 i8 j1 h9 hB;go_enter Tryz.func42,Tryz.ntmps42;go_upto_region 3 with fail;clear hX c6 g0 g1 g2 g3 g4;rw[f2] at HX;have d1:A X t6 1 (.slice oa bx.ops.length oc):=zA HX.out.2.2.1 rfl;go_wp2;clear d1
 go_loopw [5,24] (fun cv jv wx=>∃(j:Nat) (s':Slv) (c:Bool),j<=bx.ops.length/\cv=.bool c/\jv=U j/\Hid ((bx.ops.take j).foldl (opS p k) (s,false)=(s',c)/\SlvAt wx K p g k s'/\SlvTo X wx K)) (fun _ jv _=>bx.ops.length-(intOf jv).toNat)
 case atStart=>exact⟨0,s,false,Jt _,rfl,rfl,Ja ⟨rfl,HX.out.1,SlvTo.refl _ _⟩⟩
 case round=>
  obtain⟨j,s',c,hj,rfl,rfl,l⟩:=hrel
  by_cases a0:j<bx.ops.length
  ·have b8:(j:Int)<(bx.ops.length:Int):=Zo;obtain⟨o,ho⟩:∃o,bx.ops[j]? =some o:=⟨_,Jd a0⟩
   have u:Below K.B X wr:=HX.out.1.keepB l.out.2.2;obtain⟨qb,qo,d3,b2,e0,e1,e2,e3,e4,h64,av,e5,a8⟩:=(HX.out.2.2.2.1.below xA u).get ho;obtain⟨aa,ac,rfl,_,_⟩:=a8.form;subst d3;have d2:qb<wr.heap.size:=Jy b2 (Jn HX.out.2.2.2.2.2.2.2 (Jn (Qd HX.out.2.2.2.2.2.2.1) u.size));obtain⟨Y,hY⟩:∃Y,wr.alloc (I (C o aa ac) 76)=Y:=⟨_,rfl⟩
   have a2:N wr Y:=by rw[<-hY];exact(Below.refl _ _).alloc (Je _) _
   have a4:O Y wr.heap.size (C o aa ac) 76:=by rw[<-hY];exact zI rfl
   have d:=Ja (show SlvAt Y K p g k s'/\SlvTo X Y K/\O Y wr.heap.size (C o aa ac) 76/\wr.heap.size≠K.rb/\wr.heap.size≠K.kb/\wr.heap.size≠K.sb from⟨l.out.2.1.below a2,l.out.2.2.trans (SlvTo.of_below a2),a4,l.out.2.1.fresh (Je _)⟩);have HO:=Ja (Jb ho (Jb h64 (HW.out.2.1.ops o (Ji ho))));have a3:=Ja a0;clear ho h64 a8 u a2 a4 a0;go_upto_region 6 with fail;clear hY e0 e1 e2 e3 e4 e5 d2 b2;obtain⟨t8,i0⟩:∃t8,wr.heap.size=t8:=⟨_,rfl⟩
   rw[i0] at d ⊢;have z0:A Y t8 0 (U o.code):=zA d.out.2.2.1 rfl;have z1:A Y t8 1 (U o.res):=zA d.out.2.2.1 rfl;have z2:A Y t8 2 (U o.a):=zA d.out.2.2.1 rfl;have z3:A Y t8 3 (U o.b):=zA d.out.2.2.1 rfl;have z4:A Y t8 4 (.int .u16 (o.n:Int)):=zA d.out.2.2.1 rfl;have z5:A Y t8 5 (.slice aa o.args.length ac):=zA d.out.2.2.1 rfl
   by_cases hr:0<=o.res
   ·have i2:decide (0<=o.res)=true:=decide_eq_true hr;obtain⟨a,ha⟩:∃a,afO p s' o=a:=⟨_,rfl⟩
    obtain⟨s2,r,hq⟩:∃s2 r,setF k s' o.res a=(s2,r):=⟨_,_,rfl⟩
    obtain⟨d0,d5,f8⟩:=HO.out.2.2 hr;have y:a.ok:=by rw[<-ha];exact ahV d.out.1.oks d0 hr
    have c0:(aeR a (s'.get o.res)).ok:=af2 y (d.out.1.oks.get _)
    have k6:=Ja (show ∀W,N Y W->G 96 #[Q K.sb,.agg (C o aa ac)] W (mo W a) from fun W hb=>by
     rw[<-ha];exact aiz (d.out.1.below hb) (.slice aa o.args.length ac) HO.out.2.1.1 HO.out.2.1.2.2.2.2 d5 f8)
    have e6:=Ja (show ∀W,SlvAt W K p g k s'->G 38 #[Q K.sb,U o.res,.agg #[.int .u16 (a.lo:Int),.int .u16 (a.hi:Int)]] W (agv W K p g k (s2,r)) from fun W hb=>by
     have:=ahz hb (v:=o.res.toNat) ((d0 hr).1) y (by rw[Oa hr];exact c0);rw[Oa hr,hq] at this
     exact this)
    have HQ:=Ja (Jb hq (Jb ha hr));clear hq ha d0 d5 f8 y c0;have HC:=Ja (show ∀w':World,w'.heap[t8]? =Y.heap[t8]?->A w' t8 0 (U o.code)/\A w' t8 1 (U o.res)/\A w' t8 2 (U o.a)/\A w' t8 3 (U o.b)/\A w' t8 4 (.int .u16 (o.n:Int))/\A w' t8 5 (.slice aa o.args.length ac) from fun W h=>⟨zA (h.trans d.out.2.2.1) rfl,zA (h.trans d.out.2.2.1) rfl,zA (h.trans d.out.2.2.1) rfl,zA (h.trans d.out.2.2.1) rfl,zA (h.trans d.out.2.2.1) rfl,zA (h.trans d.out.2.2.1) rfl⟩);have f6:=lt_of_block d.out.2.2.1;cases r
    all_goals go_region_held3 (fun w'=>A w' t8 0 (U o.code)/\A w' t8 1 (U o.res)/\A w' t8 2 (U o.a)/\A w' t8 3 (U o.b)/\A w' t8 4 (.int .u16 (o.n:Int))/\A w' t8 5 (.slice aa o.args.length ac))
     ((refine HC.out _ ?_;first|exact rfl|exact k1|exact k0))
     ((first
       |(go_at_call 96;refine(k6.out _ Zf).mono ?_;rintro e w1 ⟨rfl,f7⟩;have d9:Below Y.heap.size Y w1:=Below.trans (show Below Y.heap.size Y _ from Zf) (f7.mono (Je _));clear f7;have k1:w1.heap[t8]? =Y.heap[t8]?:=d9.block _ f6)
       |(go_at_call 38;refine(e6.out _ (d.out.1.below (by repeat' (first|with_reducible exact d9|with_reducible refine Below.drew ?_)))).mono ?_;rintro e w2 ⟨rfl,a5,b1⟩;have c9:SlvTo Y w2 K:=SlvTo.trans (SlvTo.of_below (show Below Y.heap.size Y _ from by repeat' (first|with_reducible exact d9|with_reducible refine Below.drew ?_))) b1;have k0:w2.heap[t8]? =Y.heap[t8]?:=c9.block _ f6 d.out.2.2.2.1 d.out.2.2.2.2.1 d.out.2.2.2.2.2;have H2:=Ja (Jb a5 c9);clear a5 b1 c9)))
    all_goals clear z0 z1 z2 z3 z4 z5
    all_goals go_wp2_with fail
    all_goals (
     go_roundw
     case rel=>exact⟨j+1,s2,_,a3.out,by first|rfl|(cases c<;>rfl),by go_num,Ja ⟨by rw[e8 HO.out.1,l.out.1];unfold opS;rw[if_pos HQ.out.2.2];unfold i3;rw[show afO p (s',c).1 o=a from HQ.out.2.1,HQ.out.1];first|rw[Bool.or_true]|rw[Bool.or_false],H2.out.1.below (by first|exact Below.refl _ _|exact(Below.refl _ _).drew),d.out.2.1.trans (H2.out.2.trans (SlvTo.of_below (by first|exact Below.refl _ _|exact(Below.refl _ _).drew)))⟩⟩
     case measure=>(try have h1:=a3.out);(try have h2:=b4.out);simp[intOf];omega)
   ·have i2:decide (0<=o.res)=false:=decide_eq_false hr;go_quiet (fail);go_wp2;go_roundw
    case rel=>exact⟨j+1,s',c,a3.out,rfl,by go_num,Ja ⟨by rw[e8 HO.out.1,l.out.1];unfold opS;rw[if_neg hr],d.out.1.below (by first|exact Below.refl _ _|exact yC (Below.refl _ _)),d.out.2.1.trans (SlvTo.of_below (by first|exact Below.refl _ _|exact yC (Below.refl _ _)))⟩⟩
    case measure=>(try have h1:=a3.out);(try have h2:=b4.out);simp[intOf];omega
  ·obtain rfl:j=bx.ops.length:=by omega
   have b8:¬(bx.ops.length:Int)<(bx.ops.length:Int):=Zo;have f0:=l.out.2.2.blk HX.out.2.2.1 HX.out.2.2.2.2.2.2.1 (by rw[<-f2];exact HW.out.1.fresh (Je _));have d4:A wr t6 4 (.slice ta bx.term.to.length tc):=zA f0 rfl;have HF:=Ja (show bx.ops.foldl (opS p k) (s,false)=(s',c) by have:=l.out.1;rw[Nl] at this;exact this);have e7:=Ja l.out.2;clear f0 hj a0 l;go_wp2;clear d4
   go_loopw [5,45] (fun cv jv wx=>∃(j:Nat) (s2:Slv) (c2:Bool),j<=bx.term.to.length/\cv=.bool c2/\jv=U j/\Hid ((bx.term.to.take j).foldl (ag2 g k) (s',c)=(s2,c2)/\SlvAt wx K p g k s2/\SlvTo X wx K)) (fun _ jv _=>bx.term.to.length-(intOf jv).toNat)
   case atStart=>exact⟨0,s',c,Jt _,rfl,rfl,Ja ⟨rfl,e7.out.1,e7.out.2⟩⟩
   case round=>
    clear e7;obtain⟨j,s2,c2,hj,rfl,rfl,l⟩:=hrel
    by_cases a0:j<bx.term.to.length
    ·have b8:(j:Int)<(bx.term.to.length:Int):=Zo;obtain⟨e,he⟩:∃e,bx.term.to[j]? =some e:=⟨_,Jd a0⟩
     have u:Below K.B X wr:=HX.out.1.keepB l.out.2.2;obtain⟨qb,qo,d3,b2,e0,h64,av,e1,a8⟩:=(HX.out.2.2.2.2.1.below xL u).get he;obtain⟨aa,ac,rfl,k5,m4⟩:=a8.form;have m5:e.args.length<=9223372036854775807:=Zo;subst d3;have d2:qb<wr.heap.size:=Jy b2 (Jn HX.out.2.2.2.2.2.2.2 (Jn (Qd HX.out.2.2.2.2.2.2.1) u.size));obtain⟨Y,hY⟩:∃Y,wr.alloc (I #[U e.block,.slice aa e.args.length ac] 79)=Y:=⟨_,rfl⟩
     have a2:N wr Y:=by rw[<-hY];exact(Below.refl _ _).alloc (Je _) _
     have a4:O Y wr.heap.size #[U e.block,.slice aa e.args.length ac] 79:=by rw[<-hY];exact zI rfl
     have f9:K.B<=wr.heap.size:=Qd (Nat.lt_of_le_of_lt l.out.2.1.lt.1 (lt_of_block l.out.2.1.cell));have d:=Ja (show SlvAt Y K p g k s2/\SlvTo X Y K/\O Y wr.heap.size #[U e.block,.slice aa e.args.length ac] 79/\(wr.heap.size≠K.rb/\wr.heap.size≠K.kb/\wr.heap.size≠K.sb)/\zY Y K.B (.slice aa e.args.length ac) e.args/\wr.heap.size<Y.heap.size from⟨l.out.2.1.below a2,l.out.2.2.trans (SlvTo.of_below a2),a4,l.out.2.1.fresh (Je _),a8.below zO (a2.mono f9),lt_of_block a4⟩);have HO:=Ja (Jb he (HW.out.2.1.tos e (Ji he)));have a3:=Ja a0;clear he h64 a8 u a2 a4 a0 k5 f9;go_upto_region 12 with fail;clear hY e0 e1 d2 b2;obtain⟨t10,g5⟩:∃t10,wr.heap.size=t10:=⟨_,rfl⟩
     rw[g5] at d ⊢;have z1:A Y t10 1 (.slice aa e.args.length ac):=zA d.out.2.2.1 rfl;obtain⟨eb,d7⟩:∃eb:Nat,e.block=eb:=⟨e.block.toNat,by have:=HO.out.2.1;omega⟩
     obtain⟨bq,c5⟩:∃bq,g[eb]? =some bq:=⟨_,Jd (by have:=HO.out.2.1;omega)⟩
     have b9:xz g e.block=bq:=by rw[d7];exact z6 c5
     have b6:=HO.out.2.2;rw[b9] at b6;have m3:eb<g.length:=(Jh.1 c5).1;have HE:=Ja (Jb b6 (Jb b9 c5));have k7:=Ja d7;clear b6 b9 c5 d7;go_wp2;clear z1
     go_loopw [5,52] (fun cv jv wx=>∃(m:Nat) (s3:Slv) (c3:Bool),m<=e.args.length/\cv=.bool c3/\jv=U m/\Hid (((bq.params.zip e.args).take m).foldl (ajL k) (s2,c2)=(s3,c3)/\SlvAt wx K p g k s3/\SlvTo Y wx K)) (fun _ jv _=>e.args.length-(intOf jv).toNat)
     case atStart=>exact⟨0,s2,c2,Jt _,rfl,rfl,Ja ⟨rfl,d.out.1,SlvTo.refl _ _⟩⟩
     case round=>
      obtain⟨m,s3,c3,hm,rfl,rfl,t⟩:=hrel
      by_cases b3:m<e.args.length
      ·have j2:(m:Int)<(e.args.length:Int):=Zo;obtain⟨x,hx⟩:∃x,e.args[m]? =some x:=⟨_,Jd b3⟩
       obtain⟨v,hv⟩:∃v,bq.params[m]? =some v:=⟨_,Jd (by rw[<-HE.out.1.1];exact b3)⟩
       have hz:(bq.params.zip e.args)[m]? =some (v,x):=List.getElem?_zip_eq_some.2 ⟨hv,hx⟩;have e9:=HE.out.1.2.1 x (Ji hx);have h6:=HE.out.1.2.2 v (Ji hv);have u:Below K.B Y wr:=d.out.1.keepB t.out.2.2;obtain⟨xb,xo,h4,h5,xc,_⟩:=(d.out.2.2.2.2.1.below zO u).get hx;subst h4;have d8:=t.out.2.1.blks;rw[HW.out.2.2.2] at d8;obtain⟨ub,uo,f1,h8,_,_,_,pv,_,_,u0,_,_,a1,_,_⟩:=d8.get HE.out.2.2;simp only[Option.some.injEq,Addr.mk.injEq,and_true] at f1;obtain⟨rfl,rfl⟩:=f1;obtain⟨ya,yc,rfl,g8,l0⟩:=a1.form;obtain⟨yb,yo,g9,h0,y0,_⟩:=a1.get hv;subst g9;rw[Nk] at xc y0;obtain⟨xn,rfl⟩:∃xn:Nat,x=xn:=⟨x.toNat,by omega⟩
       obtain⟨vn,rfl⟩:∃vn:Nat,v=vn:=⟨v.toNat,by omega⟩
       obtain⟨r0,r1⟩:=t.out.2.1.rcell e9;rw[Ni] at r0 r1;obtain⟨a,ha⟩:∃a,s3.get (xn:Int)=a:=⟨_,rfl⟩
       rw[ha] at r0 r1;have y:a.ok:=by rw[<-ha];exact t.out.2.1.oks.get _
       obtain⟨s4,r,hq⟩:∃s4 r,setF k s3 (vn:Int) a=(s4,r):=⟨_,_,rfl⟩
       have h7:vn<K.n:=Zo;have l1:xn<K.n:=Zo
       have e6:=Ja (show ∀W,SlvAt W K p g k s3->G 38 #[Q K.sb,U vn,.agg #[.int .u16 (a.lo:Int),.int .u16 (a.hi:Int)]] W (agv W K p g k (s4,r)) from fun W hb=>by
        have:=ahz hb h7 y (af2 y (hb.oks.get _));rw[hq] at this
        exact this)
       have f4:bq.params.length=e.args.length:=HE.out.1.1.symm;have c6:=t.out.2.1.cells.2.2.2.2.2;rw[HW.out.2.2.2] at c6;have c8:=t.out.2.1.cells.2.2.1;have d6:=t.out.2.2.blk d.out.2.2.1 d.out.2.2.2.2.2 d.out.2.2.2.1;have z0:A wr t10 0 (U eb):=by rw[<-k7.out];exact zA d6 rfl
       have m0:=t.out.2.1.n64;have l7:m<bq.params.length:=Zo;have HQ:=Ja (Jb hq (Jb ha (Jb hz f4)));have i1:=lt_of_block t.out.2.1.cell;have a5:=lt_of_block t.out.2.1.row;have n0:K.B<=wr.heap.size:=Qd (Nat.lt_of_le_of_lt t.out.2.1.lt.1 i1);have l6:xb<wr.heap.size:=Zo;have l5:bb<wr.heap.size:=Zo;have l4:yb<wr.heap.size:=Zo;have b4:=Ja b3;clear hq ha hz hx hv f4 d8 a1 u d6 g8 y e9 h6 h5 h8 h0 b3;go_upto_region 15 with fail;refine zt 21 Zk Zk ?_;simp only[Qo,Uc,Qp,Ui]
       repeat (go_big_quiet_step (fail))
       refine wpQuiet_nil ?_;clear z0 c6 c8 y0 u0 xc r0 r1;cases r
       all_goals go_wp2_with (go_at_call 38;go_must (refine(e6.out _ (t.out.2.1.below (Below.refl _ _).drew)).mono ?_;rintro e w2 ⟨rfl,a5,b1⟩;have H2:=Ja (Jb a5 ((SlvTo.of_below (Below.refl wr.heap.size wr).drew).trans b1));clear a5 b1))
       all_goals (
        go_roundw
        case rel=>exact⟨m+1,s4,_,b4.out,by first|rfl|(cases c3<;>rfl),by go_num,Ja ⟨by rw[e8 HQ.out.2.2.1,t.out.1];unfold ajL i3;rw[show(s3,c3).1.get ((vn:Int),(xn:Int)).2=a from HQ.out.2.1,HQ.out.1];first|rw[Bool.or_true]|rw[Bool.or_false],H2.out.1.below (by first|exact Below.refl _ _|exact(Below.refl _ _).drew),t.out.2.2.trans (H2.out.2.trans (SlvTo.of_below (by first|exact Below.refl _ _|exact(Below.refl _ _).drew)))⟩⟩
        case measure=>(try have h1:=a3.out);(try have h2:=b4.out);simp[intOf];omega)
      ·obtain rfl:m=e.args.length:=by omega
       have j2:¬(e.args.length:Int)<(e.args.length:Int):=Zo;clear hm b3;go_wp2;go_roundw
       case rel=>
        refine⟨j+1,s3,c3,a3.out,rfl,by go_num,Ja ⟨?_,t.out.2.1,d.out.2.1.trans t.out.2.2⟩⟩;rw[e8 HO.out.1,l.out.1];unfold ag2;rw[HE.out.2.1,<-t.out.1,Oy (by rw[List.length_zip,HE.out.1.1];omega)]
       case measure=>(try have h1:=a3.out);(try have h2:=b4.out);simp[intOf];omega
    ·obtain rfl:j=bx.term.to.length:=by omega
     have b8:¬(bx.term.to.length:Int)<(bx.term.to.length:Int):=Zo;clear hj a0;go_wp2;go_ret
     have g6:agS p g k (s,false) bx=(s2,c2):=by
      unfold agS;rw[HF.out,<-l.out.1,Nl]
     rw[g6];exact⟨rfl,l.out.2.1,HX.out.2.1.trans l.out.2.2⟩
def objT (o:IObj)(a:Rg)(n:Int):Prop:=o.bank=-1/\o.addr<=a.lo/\(a.hi:Int)+n<=(o.addr:Int)+o.size
theorem objGo_at{l:List IObj}{o:IObj}(h:l[k]? =some o)(a:Rg)(n:Int):(objT o a n->ae8 (l.drop k) k a n=k)/\(¬objT o a n->ae8 (l.drop k) k a n=ae8 (l.drop (k+1)) (k+1:Nat) a n):=by
 have hk:=(Jh.1 h).1;have c:l.drop k=o::l.drop (k+1):=by rw[Qn hk,(Jh.1 h).2]
 rw[c,show((k+1:Nat):Int)=(k:Int)+1 by omega];rw[ae8];constructor
 ·intro ht;exact if_pos ht
 ·intro ht;exact if_neg ht
theorem aiv{B:Nat}{V:PV}{p:IProg}(hp:ProgIn w B V p)(hB:B<=w.heap.size){a:Rg}(ha:a.ok)(n:Int)(hn:0<=n/\n<=2):
 Calls Tryz.prog 43 #[yH V p,.agg #[Y (a.lo:Int),Y (a.hi:Int)],U n] w (aeN w (ae8 p.data 0 a n)):=by
 obtain⟨Vf,Va,Vd,Vb⟩:=V;obtain⟨da,dc,e3,b5,b4⟩:=hp.data.form;have a4:=hp.data;have b0:Vd=.slice da p.data.length dc:=e3;subst b0;have b6:=ha.1;have b7:=ha.2;have b3:=hn.1;have b2:=hn.2;obtain⟨G,hG⟩:∃G,ae8 p.data 0 a n=G:=⟨_,rfl⟩
 rw[hG];have HG:=Ja hG;unfold yH;obtain⟨X,hX⟩:∃X,(w.alloc (I #[Vf,Va,U p.entry,U p.handler,.slice da p.data.length dc,Vb] 29)).alloc (I #[Y (a.lo:Int),Y (a.hi:Int)] 45)=X:=⟨_,rfl⟩
 have l:N w X:=by rw[<-hX];exact((Below.refl _ _).alloc (Je _) _).alloc Zs _
 have a1:O X w.heap.size #[Vf,Va,U p.entry,U p.handler,.slice da p.data.length dc,Vb] 29:=by rw[<-hX];exact zB (zI rfl)
 have a0:O X (w.heap.size+1) #[Y (a.lo:Int),Y (a.hi:Int)] 45:=by rw[<-hX];exact zI Zs
 have g:=Ja (show N w X/\O X w.heap.size #[Vf,Va,U p.entry,U p.handler,.slice da p.data.length dc,Vb] 29/\O X (w.heap.size+1) #[Y (a.lo:Int),Y (a.hi:Int)] 45/\kq X B (.slice da p.data.length dc) p.data/\B<=X.heap.size from⟨l,a1,a0,a4.below tZ (l.mono hB),Jn hB l.size⟩);clear a4 hp l a1 a0 hG ha hn hB;go_enter Tryz.func43,Tryz.ntmps43;go_upto_region 1 with fail;clear hX;obtain⟨t3,a3⟩:∃t,w.heap.size=t:=⟨_,rfl⟩
 obtain⟨t4,a2⟩:∃t,w.heap.size+1=t:=⟨_,rfl⟩
 have HT:=Ja g.out.1;rw[a2] at g ⊢;rw[a3] at g ⊢;clear a3 a2;have d4:A X t3 4 (.slice da p.data.length dc):=zA g.out.2.1 rfl;go_wp2;clear d4
 go_loopw [12] (fun kv wx=>∃k:Nat,k<=p.data.length/\kv=U k/\Hid (ae8 (p.data.drop k) k a n=G/\N X wx)) (fun kv _=>p.data.length-(intOf kv).toNat)
 case atStart=>exact⟨0,Jt _,rfl,Ja ⟨HG.out,Below.refl _ _⟩⟩
 case round=>
  obtain⟨k,hk,rfl,c⟩:=hrel;have j:=zH c.out.2 g.out.2.2.1 (lt_of_block g.out.2.2.1);have x0:A wr t4 0 (Y (a.lo:Int)):=zA j rfl;have x1:A wr t4 1 (Y (a.hi:Int)):=zA j rfl;have b8:=lt_of_block j;clear j
  by_cases y:k<p.data.length
  ·have a6:(k:Int)<(p.data.length:Int):=Zo;obtain⟨o,ho⟩:∃o,p.data[k]? =some o:=⟨_,Jd y⟩
   obtain⟨ob,oq,a8,a5,o0,o1,o2,ob64,oa64,os64⟩:=(g.out.2.2.2.1.below tZ (c.out.2.mono g.out.2.2.2.2)).get ho;subst a8;have b1:ob<wr.heap.size:=Jy a5 (Jn g.out.2.2.2.2 c.out.2.size);have d:=Ja (Jb (objGo_at ho a n) (Jb y ob64));clear ho ob64 y a5;obtain⟨ov,m⟩:∃v,o.bank=v:=⟨_,rfl⟩
   obtain⟨oA,x⟩:∃v,o.addr=v:=⟨_,rfl⟩
   obtain⟨oS,u⟩:∃v,o.size=v:=⟨_,rfl⟩
   have i:=Ja (Jb m (Jb x u));rw[m] at o0;rw[x] at o1 oa64;rw[u] at o2 os64;clear m x u;have hT:∀q:Prop,Decidable q->True:=fun _ _=>trivial
   clear hT
   by_cases h1:ov=-1
   ·by_cases h2:oA<=a.lo
    ·by_cases h3:(a.hi:Int)+n<=(oA:Int)+oS
     ·have h:=Ja ((d.out.1.1 ⟨i.out.1.trans h1,by rw[i.out.2.1];exact h2,by rw[i.out.2.1,i.out.2.2];exact h3⟩).symm.trans c.out.1);subst h1;go_wp2;go_ret;exact⟨by rw[<-h.out];rfl,(HT.out.trans (c.out.2.mono HT.out.size)).trans ((Below.alloc (Below.refl _ _) (Je _) _).mono (Jn HT.out.size c.out.2.size))⟩
     ·have h:=Ja ((d.out.1.2 (fun t=>h3 (by have:=t.2.2;rw[i.out.2.1,i.out.2.2] at this;exact this))).symm.trans c.out.1);subst h1;go_wp2;go_roundw
      case rel=>exact⟨k+1,d.out.2.1,by go_num,Ja ⟨h.out,c.out.2.trans ((Below.alloc (Below.refl _ _) (Je _) _).mono c.out.2.size)⟩⟩
      case measure=>have:=d.out.2.1;simp[intOf];omega
    ·have h:=Ja ((d.out.1.2 (fun t=>h2 (by have:=t.2.1;rw[i.out.2.1] at this;exact this))).symm.trans c.out.1);have b9:a.lo<oA:=Zo;subst h1;clear h2;go_wp2;go_roundw
     case rel=>exact⟨k+1,d.out.2.1,by go_num,Ja ⟨h.out,c.out.2.trans ((Below.alloc (Below.refl _ _) (Je _) _).mono c.out.2.size)⟩⟩
     case measure=>have:=d.out.2.1;simp[intOf];omega
   ·have h:=Ja ((d.out.1.2 (fun t=>h1 (i.out.1.symm.trans t.1))).symm.trans c.out.1);have c0:(ov==(-1:Int))=false:=by simpa using h1
    go_wp2;go_roundw
    case rel=>exact⟨k+1,d.out.2.1,by go_num,Ja ⟨h.out,c.out.2.trans ((Below.alloc (Below.refl _ _) (Je _) _).mono c.out.2.size)⟩⟩
    case measure=>have:=d.out.2.1;simp[intOf];omega
  ·obtain rfl:k=p.data.length:=by omega
   have a6:¬(p.data.length:Int)<(p.data.length:Int):=Zo;have h:=Ja (show(-1:Int)=G by have:=c.out.1;rw[List.drop_length] at this;exact this);go_wp2;go_ret;exact⟨by rw[<-h.out];rfl,HT.out.trans (c.out.2.mono HT.out.size)⟩
def askR (p:IProg)(f:Int):Prop:=vC p=0/\(0<=f/\f.toNat<p.funcs.length)/\p.funcs.getD f.toNat []≠ []
def ahe (w:World)(e:Ending)(w':World):Prop:=e=.returned (L)/\N w w'
theorem aid{B:Nat}{V:PV}{p:IProg}(hp:ProgIn w B V p)(hB:B<=w.heap.size)(hs:∀f∈p.funcs,vZ f)(hv:vC p≠0)(f:Int):
 G 15 #[yH V p,U f] w (ahe w):=by
 obtain⟨z,h⟩:∃z,vC p=z:=⟨_,rfl⟩
 have g:∀W,N w W->G 35 #[yH V p] W (m9 W z):=fun W hb=>by
  have:=tu (hp.below (hb.mono hB)) (Jn hB hb.size) hs;rw[h] at this;exact this
 rw[h] at hv;have u:(z !=0)=true:=by simpa using hv
 obtain⟨Vf,Va,Vd,Vb⟩:=V;obtain⟨f1,f2,e1,y,x⟩:=hp.funcs.form;have l:Vf=.slice f1 p.funcs.length f2:=e1;subst l;obtain⟨X,k⟩:∃X,w.alloc (I #[.slice f1 p.funcs.length f2,Va,U p.entry,U p.handler,Vd,Vb] 29)=X:=⟨_,rfl⟩;have d:N w X:=by rw[<-k];exact(Below.refl _ _).alloc (Je _) _
 have c:O X w.heap.size #[.slice f1 p.funcs.length f2,Va,U p.entry,U p.handler,Vd,Vb] 29:=by rw[<-k];exact zI rfl
 have o:=Ja (show ∀W,N X W->G 35 #[.agg #[.slice f1 p.funcs.length f2,Va,U p.entry,U p.handler,Vd,Vb]] W (m9 W z) from fun W hb=>g W (d.trans (hb.mono d.size)));have x0:=zA (i:=0) c rfl;have x1:=zA (i:=1) c rfl;have x2:=zA (i:=2) c rfl;have x3:=zA (i:=3) c rfl;have x4:=zA (i:=4) c rfl;have x5:=zA (i:=5) c rfl;have t:=lt_of_block c;have m:=Ja (Jb d c);clear d c;clear hp hB hs hv g h;unfold yH;go_enter Tryz.func15,Tryz.ntmps15;go_wp2_with fail
 go_step3
 go_wp2_with (go_at_call 35;go_must (refine(o.out _ (Below.refl _ _)).mono ?_;rintro e w1 ⟨rfl,j⟩))
 try rw[Exit.noGoto_ret]
 go_ret;exact⟨rfl,m.out.1.trans (j.mono m.out.1.size)⟩
theorem aiC{B:Nat}{V:PV}{p:IProg}(hp:ProgIn w B V p)(hB:B<=w.heap.size)(hs:∀f∈p.funcs,vZ f)(hv:vC p=0)(f:Int)(hf:f<0):
 G 15 #[yH V p,U f] w (ahe w):=by
 have g:∀W,N w W->G 35 #[yH V p] W (m9 W 0):=fun W hb=>by
  have:=tu (hp.below (hb.mono hB)) (Jn hB hb.size) hs;rw[hv] at this;exact this
 have t:decide (f<0)=true:=decide_eq_true hf;obtain⟨Vf,Va,Vd,Vb⟩:=V;obtain⟨f1,f2,e1,x,u⟩:=hp.funcs.form;have k:Vf=.slice f1 p.funcs.length f2:=e1;subst k;obtain⟨X,j⟩:∃X,w.alloc (I #[.slice f1 p.funcs.length f2,Va,U p.entry,U p.handler,Vd,Vb] 29)=X:=⟨_,rfl⟩;have d:N w X:=by rw[<-j];exact(Below.refl _ _).alloc (Je _) _
 have c:O X w.heap.size #[.slice f1 p.funcs.length f2,Va,U p.entry,U p.handler,Vd,Vb] 29:=by rw[<-j];exact zI rfl
 have m:=Ja (show ∀W,N X W->G 35 #[.agg #[.slice f1 p.funcs.length f2,Va,U p.entry,U p.handler,Vd,Vb]] W (m9 W 0) from fun W hb=>g W (d.trans (hb.mono d.size)));have x0:=zA (i:=0) c rfl;have x1:=zA (i:=1) c rfl;have x2:=zA (i:=2) c rfl;have x3:=zA (i:=3) c rfl;have x4:=zA (i:=4) c rfl;have x5:=zA (i:=5) c rfl;have o:=lt_of_block c;have l:=Ja (Jb d c);clear d c;clear hp hB hs hv g;unfold yH;go_enter Tryz.func15,Tryz.ntmps15;go_wp2_with fail
 go_step3
 go_wp2_with (go_at_call 35;go_must (refine(m.out _ (Below.refl _ _)).mono ?_;rintro e w1 ⟨rfl,h⟩))
 try rw[Exit.noGoto_ret]
 go_ret;exact⟨rfl,l.out.1.trans (h.mono l.out.1.size)⟩
theorem aix{B:Nat}{V:PV}{p:IProg}(hp:ProgIn w B V p)(hB:B<=w.heap.size)(hs:∀f∈p.funcs,vZ f)(hv:vC p=0)(f:Int)(a2:0<=f)(hf:(p.funcs.length:Int)<=f):
 G 15 #[yH V p,U f] w (ahe w):=by
 have j:∀W,N w W->G 35 #[yH V p] W (m9 W 0):=fun W hb=>by
  have:=tu (hp.below (hb.mono hB)) (Jn hB hb.size) hs;rw[hv] at this;exact this
 have x:decide (f<0)=false:=decide_eq_false Zo;have u:decide ((p.funcs.length:Int)<=f)=true:=decide_eq_true hf;obtain⟨Vf,Va,Vd,Vb⟩:=V;obtain⟨f1,f2,e1,a1,a0⟩:=hp.funcs.form;have o:Vf=.slice f1 p.funcs.length f2:=e1;subst o;obtain⟨X,m⟩:∃X,w.alloc (I #[.slice f1 p.funcs.length f2,Va,U p.entry,U p.handler,Vd,Vb] 29)=X:=⟨_,rfl⟩;have d:N w X:=by rw[<-m];exact(Below.refl _ _).alloc (Je _) _
 have c:O X w.heap.size #[.slice f1 p.funcs.length f2,Va,U p.entry,U p.handler,Vd,Vb] 29:=by rw[<-m];exact zI rfl
 have t:=Ja (show ∀W,N X W->G 35 #[.agg #[.slice f1 p.funcs.length f2,Va,U p.entry,U p.handler,Vd,Vb]] W (m9 W 0) from fun W hb=>j W (d.trans (hb.mono d.size)));have x0:=zA (i:=0) c rfl;have x1:=zA (i:=1) c rfl;have x2:=zA (i:=2) c rfl;have x3:=zA (i:=3) c rfl;have x4:=zA (i:=4) c rfl;have x5:=zA (i:=5) c rfl;have k:=lt_of_block c;have l:=Ja (Jb d c);clear d c;clear hp hB hs hv j;unfold yH;go_enter Tryz.func15,Tryz.ntmps15;go_wp2_with fail
 go_step3
 go_wp2_with (go_at_call 35;go_must (refine(t.out _ (Below.refl _ _)).mono ?_;rintro e w1 ⟨rfl,h⟩;have g:=zH h l.out.2 k;have y0:=zA (i:=0) g rfl;have y:=lt_of_block g))
 try rw[Exit.noGoto_ret]
 go_ret;exact⟨rfl,l.out.1.trans (h.mono l.out.1.size)⟩
theorem agm{B:Nat}{V:PV}{p:IProg}(hp:ProgIn w B V p)(hB:B<=w.heap.size)(hs:∀f∈p.funcs,vZ f)(hv:vC p=0)(f:Nat)(hf:p.funcs[f]? =some []):
 G 15 #[yH V p,U f] w (ahe w):=by
 have m:∀W,N w W->G 35 #[yH V p] W (m9 W 0):=fun W hb=>by
  have:=tu (hp.below (hb.mono hB)) (Jn hB hb.size) hs;rw[hv] at this;exact this
 have a8:=(Jh.1 hf).1;have a1:decide ((f:Int)<0)=false:=decide_eq_false Zo;have a0:decide ((p.funcs.length:Int)<=(f:Int))=false:=decide_eq_false Zo;have y:decide (p.funcs.length<=f)=false:=decide_eq_false Zo;obtain⟨Vf,Va,Vd,Vb⟩:=V;obtain⟨f1,f2,e1,b1,b0⟩:=hp.funcs.form;have u:Vf=.slice f1 p.funcs.length f2:=e1;subst u;obtain⟨X,t⟩:∃X,w.alloc (I #[.slice f1 p.funcs.length f2,Va,U p.entry,U p.handler,Vd,Vb] 29)=X:=⟨_,rfl⟩;have d:N w X:=by rw[<-t];exact(Below.refl _ _).alloc (Je _) _
 have c:O X w.heap.size #[.slice f1 p.funcs.length f2,Va,U p.entry,U p.handler,Vd,Vb] 29:=by rw[<-t];exact zI rfl
 have x:=Ja (show ∀W,N X W->G 35 #[.agg #[.slice f1 p.funcs.length f2,Va,U p.entry,U p.handler,Vd,Vb]] W (m9 W 0) from fun W hb=>m W (d.trans (hb.mono d.size)));obtain⟨gb,go,rfl,k,bv,g0,l⟩:=hp.funcs.get hf;obtain⟨ka,kc,rfl,a5,a4⟩:=l.form;rw[Nk] at g0;have HG:=Ja (show ∀W,N w W->A W gb (go+f) (.slice ka 0 kc) from fun W hb=>zV (hb.mono hB) k g0);have a6:gb<w.heap.size:=Zo;have x0:=zA (i:=0) c rfl;have x1:=zA (i:=1) c rfl;have x2:=zA (i:=2) c rfl;have x3:=zA (i:=3) c rfl;have x4:=zA (i:=4) c rfl;have x5:=zA (i:=5) c rfl;have o:=lt_of_block c;have h:=Ja (Jb d c);clear d c;clear hp hB hs hv m hf g0 l k;unfold yH;go_enter Tryz.func15,Tryz.ntmps15;go_wp2_with fail
 go_step3
 go_wp2_with (go_at_call 35;go_must (refine(x.out _ (Below.refl _ _)).mono ?_;rintro e w1 ⟨rfl,g⟩;have j:=zH g h.out.2 o;have y0:=zA (i:=0) j rfl;have yg:=HG.out w1 (h.out.1.trans (g.mono h.out.1.size));have a3:=lt_of_block j;have a2:gb<w1.heap.size:=by omega))
 try rw[Exit.noGoto_ret]
 go_ret;exact⟨rfl,h.out.1.trans (g.mono h.out.1.size)⟩
theorem aiZ{B:Nat}{V:PV}{p:IProg}(hp:ProgIn w B V p)(hB:B<=w.heap.size)(hs:∀f∈p.funcs,vZ f)(f:Int)(h:¬askR p f):
 G 15 #[yH V p,U f] w (ahe w):=by
 by_cases hv:vC p=0
 ·by_cases h1:f<0
  ·exact aiC hp hB hs hv f h1
  by_cases h2:(p.funcs.length:Int)<=f
  ·exact aix hp hB hs hv f Zo h2
  obtain⟨n,rfl⟩:∃n:Nat,f=n:=⟨f.toNat,by omega⟩
  have c:n<p.funcs.length:=Zo
  have h3:p.funcs.getD n []=[]:=by
   by_cases e:p.funcs.getD n []=[]
   ·exact e
   ·exact absurd ⟨hv,⟨by omega,by omega⟩,e⟩ h
  refine agm hp hB hs hv n ?_;rw[Jj,Jd c] at h3;rw[Jd c]
  simpa using h3
 ·exact aid hp hB hs hv f
end Go.Proofs.YtoahcpkibpomcaaGreat
