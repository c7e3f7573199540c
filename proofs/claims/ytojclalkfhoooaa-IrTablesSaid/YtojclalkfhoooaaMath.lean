/- Part of a proof. -/
set_option linter.unusedSimpArgs false
set_option linter.unusedVariables false
namespace Go.Proofs.Ytojclalkfhoooaa
def succ (g:List (List Nat))(u:Nat):List Nat:=g.getD u []
def pB (g:List (List Int)):Bool:=g.all fun l=>l.all fun s=>decide (0<=s) && decide (s<(g.length:Int))
def zw (g:List (List Nat)):Prop:=0<g.length/\∀l∈g,∀s∈l,s<g.length
def PathN (g:List (List Nat))(P:Nat->Prop):Nat->Nat->Nat->Prop
 |0,a,b=>a=b/\P a
 |k+1,a,c=>∃b,PathN g P k a b/\c∈succ g b/\P c
def kV (g:List (List Nat)):Nat->List Bool->List (Nat×Nat)->List Nat->List Nat->Prop
 |0,_,stk,post,F=>stk=[]/\post=F
 |k+1,seen,stk,post,F=>∃st u j,stk=st++ [(u,j)]/\((j=(succ g u).length/\kV g k seen st (post++ [u]) F)∨
   (∃s,(succ g u)[j]? =some s/\seen[s]? =some true/\kV g k seen (st++ [(u,j+1)]) post F)∨
   (∃s,(succ g u)[j]? =some s/\seen[s]? =some false/\kV g k (seen.set s true) (st++ [(u,j+1)]++ [(s,0)]) post F))
def oy (g:List (List Nat)):Nat->List Bool×List Nat->Nat->List Bool×List Nat
 |0,st,_=>st
 |f+1,st,n=>
  let r:=(succ g n).foldl (fun st s=>if st.1.getD s true then st else oy g f st s) (st.1.set n true,st.2)
  (r.1,r.2++ [n])
def ul (g:List (List Nat)):List Nat:=(oy g g.length (List.replicate g.length false,[]) 0).2
def vD (g:List (List Nat)):List Nat:=(ul g).reverse
def tV (g:List (List Nat))(ord:List Nat):Prop:=∃k,kV g k ((List.replicate g.length false).set 0 true) [(0,0)] [] ord.reverse
def atF (ord:List Nat):Nat->Int->Int
 |0,_=>0
 |k+1,y=>if y=((ord.getD k 0:Nat):Int) then(k:Int) else atF ord k y
def xS (n:Nat)(P:List (List Nat))(s:Nat):List (List Nat):=P.set s (P.getD s []++ [n])
def yh (g:List (List Nat))(P:List (List Nat))(n:Nat):List (List Nat):=(succ g n).foldl (xS n) P
def un (g:List (List Nat))(ord:List Nat):List (List Nat):=ord.foldl (yh g) (List.replicate g.length [])
def UpN (idom:List Int)(f:Int->Int)(t:Int):Nat->Nat->Nat->Prop
 |0,a,a'=>¬t<f a/\a'=a
 |k+1,a,a'=>t<f a/\∃a1:Nat,a1<idom.length/\idom[a]? =some (a1:Int)/\UpN idom f t k a1 a'
def qZ (idom:List Int)(f:Int->Int):Nat->Nat->Nat->Nat->Prop
 |0,a,b,r=>a=b/\r=a
 |k+1,a,b,r=>a≠b/\∃j a',UpN idom f (f b) j a a'/\∃j' b',UpN idom f (f a') j' b b'/\qZ idom f k a' b' r
def mJ (idom:List Int)(f:Int->Int)(p:Nat)(d d1:Int):Prop:=
 ∃x,idom[p]? =some x/\((x<0/\d1=d)∨(¬x<0/\d<0/\d1=p)∨(¬x<0/\∃dn:Nat,d=dn/\dn<idom.length/\∃k r,qZ idom f k p dn r/\d1=(r:Int)))
def wi (idom:List Int)(f:Int->Int):List Nat->Int->Int->Prop
 | [],d,d'=>d'=d
 |p::ps,d,d'=>∃d1,mJ idom f p d d1/\wi idom f ps d1 d'
def OkD (idom:List Int)(d:Int):Prop:=d=-1∨∃dn:Nat,d=(dn:Int)/\dn<idom.length/\∃x,idom[dn]? =some x/\¬x<0
def TotR (idom:List Int)(f:Int->Int)(pr:List Nat):Prop:=∀p∈pr,p<idom.length/\∀d,OkD idom d->∃d1,OkD idom d1/\mJ idom f p d d1
def ny (preds:List (List Nat))(f:Int->Int):List Nat->List Int->Bool->List Int->Bool->Prop
 | [],idom,ch,idom',ch'=>idom'=idom/\ch'=ch
 |n::ns,idom,ch,idom',ch'=>∃pr d old,preds[n]? =some pr/\TotR idom f pr/\wi idom f pr (-1) d/\idom[n]? =some old/\((old=d/\ny preds f ns idom ch idom' ch')∨(old≠d/\ny preds f ns (idom.set n d) true idom' ch'))
def ip (preds:List (List Nat))(f:Int->Int)(ns:List Nat):Nat->List Int->List Int->Prop
 |0,_,_=>False
 |k+1,idom,idom'=>∃i1 ch,ny preds f ns idom false i1 ch/\((ch=false/\idom'=i1)∨(ch=true/\ip preds f ns k i1 idom'))
def kf (g:List (List Nat))(ns:List Nat)(idom:List Int):Prop:=∃k,ip (un g (0::ns)) (atF (0::ns) (ns.length+1)) ns k ((0:Int)::List.replicate (g.length-1) (-1)) idom
def ua (out:Int)(st:List Bool×List Nat)(s:Nat):List Bool×List Nat:=if(s:Int)≠out/\st.1[s]? =some false then(st.1.set s true,st.2++ [s]) else st
def i7 (g:List (List Nat))(out:Int):Nat->List Bool->List Nat->List Bool->Prop
 |0,seen,work,F=>work=[]/\F=seen
 |k+1,seen,work,F=>∃st n,work=st++ [n]/\i7 g out k ((succ g n).foldl (ua out) (seen,st)).1 ((succ g n).foldl (ua out) (seen,st)).2 F
def iK (g:List (List Nat))(fr:Nat)(out:Int)(F:List Bool):Prop:=
 ((fr:Int)=out/\F=List.replicate g.length false)∨((fr:Int)≠out/\∃k,i7 g out k ((List.replicate g.length false).set fr true) [fr] F)
inductive Desc (g:List (List Nat)) (L:List Nat):Nat->Nat->Prop
 |refl (a:Nat):Desc g L a a
 |step {a c b:Nat}:c∈succ g a-> [c,a].Sublist L->Desc g L c b->Desc g L a b
theorem Desc.mono {g:List (List Nat)}{L L':List Nat}(hL:L.Sublist L'){a b:Nat}(h:Desc g L a b):Desc g L' a b:=by
 induction h with
 |refl a=>exact .refl a
 |step h1 h2 _ ih=>exact .step h1 (h2.trans hL) ih
theorem Desc.last {g:List (List Nat)}{L:List Nat}{a b:Nat}(h:Desc g L a b):a=b∨∃p,Desc g L a p/\b∈succ g p/\ [b,p].Sublist L:=by
 induction h with
 |refl a=>exact .inl rfl
 |@step a c b h1 h2 h3 ih=>
  rcases ih with rfl|⟨p,h4,h5,h6⟩
  ·exact .inr ⟨a,.refl a,h1,h2⟩
  ·exact .inr ⟨p,.step h1 h2 h4,h5,h6⟩
structure Found (g:List (List Nat)) (seen seen':List Bool) (L:List Nat):Prop where
 len:seen'.length=seen.length
 mem:∀x:Nat,x∈L↔(seen'[x]? =some true/\seen[x]? =some false)
 keep:∀x:Nat,seen[x]? =some true->seen'[x]? =some true
 nodup:L.Nodup
 edge:∀x∈L,∀s∈succ g x,seen'[s]? =some true
 back:∀x∈L,∀s∈succ g x,s∈L-> [s,x].Sublist L∨Desc g L s x
theorem pt {a b:Nat}{l m:List Nat}(ha:a∈l)(hb:b∈m): [a,b].Sublist (l++m):=
 (List.singleton_sublist.2 ha).append (List.singleton_sublist.2 hb)
theorem Found.nil (g:List (List Nat))(seen:List Bool):Found g seen seen []:=
 ⟨rfl,fun x=>⟨fun h=>by simp at h,fun h=>by rw[h.2] at h;simp at h⟩,fun _ h=>h,List.nodup_nil,by simp,by simp⟩
theorem Found.append {g:List (List Nat)}{s0 s1 s2:List Bool}{L M:List Nat}(h:Found g s0 s1 L)(k:Found g s1 s2 M):Found g s0 s2 (L++M):=by
 refine⟨k.len.trans h.len,fun x=>?_,fun x hx=>k.keep x (h.keep x hx),?_,?_,?_⟩
 ·rw[List.mem_append,h.mem,k.mem]
  constructor
  ·rintro(⟨h1,h2⟩|⟨h1,h2⟩)
   ·exact⟨k.keep x h1,h2⟩
   ·refine⟨h1,?_⟩
    have hlt:x<s1.length:=(List.getElem?_eq_some_iff.1 h2).1
    rw[h.len] at hlt
    cases e:s0[x]'hlt with
    |false=>rw[List.getElem?_eq_getElem hlt,e]
    |true=>
     have:=h.keep x (by rw[List.getElem?_eq_getElem hlt,e])
     rw[h2] at this;simp at this
  ·rintro⟨h1,h2⟩
   have hlt:x<s0.length:=(List.getElem?_eq_some_iff.1 h2).1
   rw[<-h.len] at hlt
   cases e:s1[x]'hlt with
   |false=>exact .inr ⟨h1,by rw[List.getElem?_eq_getElem hlt,e]⟩
   |true=>exact .inl ⟨by rw[List.getElem?_eq_getElem hlt,e],h2⟩
 ·refine List.nodup_append.2 ⟨h.nodup,k.nodup,fun a ha b hb e=>?_⟩
  subst e
  have h1:=((h.mem a).1 ha).1
  have h2:=((k.mem a).1 hb).2
  rw[h1] at h2;simp at h2
 ·intro x hx s hs
  rcases List.mem_append.1 hx with hx|hx
  ·exact k.keep s (h.edge x hx s hs)
  ·exact k.edge x hx s hs
 ·intro x hx s hs hsm
  rcases List.mem_append.1 hx with hx|hx<;>rcases List.mem_append.1 hsm with hsm|hsm
  ·rcases h.back x hx s hs hsm with h1|h1
   ·exact .inl (h1.trans (List.sublist_append_left _ _))
   ·exact .inr (h1.mono (List.sublist_append_left _ _))
  ·have h1:=h.edge x hx s hs
   have h2:=((k.mem s).1 hsm).2
   rw[h1] at h2;simp at h2
  ·exact .inl (pt hsm hx)
  ·rcases k.back x hx s hs hsm with h1|h1
   ·exact .inl (h1.trans (List.sublist_append_right _ _))
   ·exact .inr (h1.mono (List.sublist_append_right _ _))
def wa (seen:List Bool):Nat:=seen.count false
theorem vm:∀ {seen:List Bool} {n:Nat},seen[n]? =some false->wa (seen.set n true)+1=wa seen
 | [],n,h=>by simp at h
 |b::l,0,h=>by simp at h;subst h;simp[wa]
 |b::l,n+1,h=>by
  have:=vm (seen:=l) (n:=n) (by simpa using h)
  unfold wa at this ⊢
  cases b<;>simp at this ⊢<;>omega
theorem od:∀ {l l':List Bool},l'.length=l.length->(∀x:Nat,l[x]? =some true->l'[x]? =some true)->wa l'<=wa l
 | [],[],_,_=>Nat.le_refl _
 | [],b::l',h,_=>by simp at h
 |a::l,[],h,_=>by simp at h
 |a::l,b::l',h,hk=>by
  have:=od (l:=l) (l':=l') (by simpa using h) (fun x hx=>by simpa using hk (x+1) (by simpa using hx))
  have h0:=hk 0
  unfold wa at this ⊢
  cases a<;>cases b<;>simp at this h0 ⊢<;>omega
theorem dgetD {seen:List Bool}{s:Nat}(h:s<seen.length):(seen.getD s true=true/\seen[s]? =some true)∨(seen.getD s true=false/\seen[s]? =some false):=by
 rw[List.getD_eq_getElem?_getD,List.getElem?_eq_getElem h]
 cases seen[s]<;>simp
theorem s9 {g:List (List Nat)}(hv:zw g){u s:Nat}(h:s∈succ g u):s<g.length:=by
 unfold succ at h
 rw[List.getD_eq_getElem?_getD] at h
 cases e:g[u]? with
 |none=>rw[e] at h;simp at h
 |some l=>rw[e] at h;exact hv.2 l (List.mem_of_getElem? e) s h
def sj (g:List (List Nat))(f:Nat)(st:List Bool×List Nat)(s:Nat):List Bool×List Nat:=if st.1.getD s true then st else oy g f st s
theorem jK (g:List (List Nat))(f:Nat)(st:List Bool×List Nat)(n:Nat):
 oy g (f+1) st n=(((succ g n).foldl (sj g f) (st.1.set n true,st.2)).1,((succ g n).foldl (sj g f) (st.1.set n true,st.2)).2++ [n]):=rfl
def jg (g:List (List Nat))(st:List Bool×List Nat)(n:Nat)(r:List Bool×List Nat):Prop:=
 ∃L,r.2=st.2++(L++ [n])/\Found g st.1 r.1 (L++ [n])/\(∀x∈L++ [n],Desc g (L++ [n]) n x)/\
  ∀(stk:List (Nat×Nat)) (k:Nat) (F:List Nat),kV g k r.1 stk r.2 F->∃k',kV g k' (st.1.set n true) (stk++ [(n,0)]) st.2 F
def FoldOk (g:List (List Nat))(n:Nat)(j:Nat)(l:List Nat)(st r:List Bool×List Nat):Prop:=
 ∃L,r.2=st.2++L/\Found g st.1 r.1 L/\(∀x∈L,∃s∈l,s∈L/\Desc g L s x)/\(∀s∈l,r.1[s]? =some true)/\
  ∀(stk:List (Nat×Nat)) (k:Nat) (F:List Nat),kV g k r.1 (stk++ [(n,j+l.length)]) r.2 F->∃k',kV g k' st.1 (stk++ [(n,j)]) st.2 F
theorem nn {g:List (List Nat)}(hv:zw g)(f:Nat)(ih:∀(st:List Bool×List Nat) (n:Nat),st.1.length=g.length->st.1[n]? =some false->wa st.1<=f->jg g st n (oy g f st n))(n:Nat):
 ∀(l:List Nat) (j:Nat) (st:List Bool×List Nat),(∀(k s:Nat),l[k]? =some s->(succ g n)[j+k]? =some s)->st.1.length=g.length->wa st.1<=f->FoldOk g n j l st (l.foldl (sj g f) st)
 | [],j,st,_,_,_=>⟨[],by simp,Found.nil _ _,by simp,by simp,fun stk k F h=>⟨k,by simpa using h⟩⟩
 |s::l,j,st,hl,hlen,hw=>by
  have hs:(succ g n)[j]? =some s:=by simpa using hl 0 s rfl
  have hslt:s<st.1.length:=by rw[hlen];exact s9 hv (List.mem_of_getElem? hs)
  have hl':∀(k t:Nat),l[k]? =some t->(succ g n)[j+1+k]? =some t:=fun k t hk=>by
   have:=hl (k+1) t (by simpa using hk)
   rwa [show j+(k+1)=j+1+k by omega] at this
  rw[List.foldl_cons]
  rcases dgetD hslt with⟨hd,he⟩|⟨hd,he⟩
  ·have e:sj g f st s=st:=by unfold sj;rw[if_pos hd]
   rw[e]
   obtain⟨L,h1,h2,h3,h4,h5⟩:=nn hv f ih n l (j+1) st hl' hlen hw
   refine⟨L,h1,h2,fun x hx=>?_,fun t ht=>?_,fun stk k F hD=>?_⟩
   ·obtain⟨t,a,b,c⟩:=h3 x hx;exact⟨t,by simp[a],b,c⟩
   ·rcases List.mem_cons.1 ht with rfl|ht
    ·exact h2.keep t he
    ·exact h4 t ht
   ·obtain⟨k',hk'⟩:=h5 stk k F (by rw[List.length_cons,show j+(l.length+1)=j+1+l.length by omega] at hD;exact hD)
    exact⟨k'+1,stk,n,j,rfl,.inr (.inl ⟨s,hs,he,hk'⟩)⟩
  ·have e:sj g f st s=oy g f st s:=by unfold sj;rw[if_neg (by rw[hd];simp)]
   rw[e]
   obtain⟨L1,a1,a2,a3,a4⟩:=ih st s hlen he hw
   obtain⟨L2,h1,h2,h3,h4,h5⟩:=nn hv f ih n l (j+1) (oy g f st s) hl' (a2.len.trans hlen) (Nat.le_trans (od a2.len a2.keep) hw)
   refine⟨(L1++ [s])++L2,by rw[h1,a1];simp,a2.append h2,fun x hx=>?_,fun t ht=>?_,fun stk k F hD=>?_⟩
   ·rcases List.mem_append.1 hx with hx|hx
    ·exact⟨s,by simp,by simp,(a3 x hx).mono (List.sublist_append_left _ _)⟩
    ·obtain⟨t,b1,b2,b3⟩:=h3 x hx
     exact⟨t,by simp[b1],List.mem_append.2 (.inr b2),b3.mono (List.sublist_append_right _ _)⟩
   ·rcases List.mem_cons.1 ht with rfl|ht
    ·exact h2.keep t ((a2.mem t).1 (by simp)).1
    ·exact h4 t ht
   ·obtain⟨k',hk'⟩:=h5 stk k F (by rw[List.length_cons,show j+(l.length+1)=j+1+l.length by omega] at hD;exact hD)
    obtain⟨k2,hk2⟩:=a4 (stk++ [(n,j+1)]) k' F hk'
    exact⟨k2+1,stk,n,j,rfl,.inr (.inr ⟨s,hs,he,hk2⟩)⟩
theorem mY {g:List (List Nat)}(hv:zw g):∀(f:Nat) (st:List Bool×List Nat) (n:Nat),st.1.length=g.length->st.1[n]? =some false->wa st.1<=f->jg g st n (oy g f st n)
 |0,st,n,_,h,hw=>by have:=vm h;omega
 |f+1,st,n,hlen,h,hw=>by
  have hws:=vm h
  have hnl:=(List.getElem?_eq_some_iff.1 h).1
  have hset:(st.1.set n true)[n]? =some true:=by simp[hnl]
  have hset':∀x:Nat,x≠n->(st.1.set n true)[x]? =st.1[x]?:=fun x hx=>List.getElem?_set_ne (Ne.symm hx)
  obtain⟨L,h1,h2,h3,h4,h5⟩:=nn hv f (mY hv f) n (succ g n) 0 (st.1.set n true,st.2) (fun k s hk=>by simpa using hk) (by simpa using hlen) (by dsimp only;omega)
  rw[jK]
  generalize (succ g n).foldl (sj g f) (st.1.set n true,st.2)=r at *
  dsimp only at h1 h2 h5 ⊢
  have hnL:n ∉ L:=fun hm=>by have:=((h2.mem n).1 hm).2;rw[hset] at this;simp at this
  refine⟨L,by rw[h1];simp,⟨?_,?_,?_,?_,?_,?_⟩,?_,?_⟩
  ·have:=h2.len;simpa using this
  ·intro x
   rw[List.mem_append,List.mem_singleton,h2.mem]
   by_cases hx:x=n
   ·subst hx;exact⟨fun _=>⟨h2.keep x hset,h⟩,fun _=> .inr rfl⟩
   ·rw[hset' x hx];simp[hx]
  ·intro x hx
   refine h2.keep x ?_
   by_cases e:x=n
   ·subst e;exact hset
   ·rw[hset' x e];exact hx
  ·exact List.nodup_append.2 ⟨h2.nodup,by simp,fun a ha b hb e=>by simp at hb;subst hb;subst e;exact hnL ha⟩
  ·intro x hx s hs
   rcases List.mem_append.1 hx with hx|hx
   ·exact h2.edge x hx s hs
   ·simp at hx;subst hx;exact h4 s hs
  ·intro x hx s hs hsm
   rcases List.mem_append.1 hx with hx1|hx1<;>rcases List.mem_append.1 hsm with hsm|hsm
   ·rcases h2.back x hx1 s hs hsm with h1|h1
    ·exact .inl (h1.trans (List.sublist_append_left _ _))
    ·exact .inr (h1.mono (List.sublist_append_left _ _))
   ·simp at hsm;subst hsm
    obtain⟨t,b1,b2,b3⟩:=h3 x hx1
    exact .inr (.step b1 (pt b2 (by simp)) (b3.mono (List.sublist_append_left _ _)))
   ·exact .inl (pt hsm hx1)
   ·simp at hx1 hsm;subst hx1;subst hsm;exact .inr (.refl _)
  ·intro x hx
   rcases List.mem_append.1 hx with hx|hx
   ·obtain⟨t,b1,b2,b3⟩:=h3 x hx
    exact .step b1 (pt b2 (by simp)) (b3.mono (List.sublist_append_left _ _))
   ·simp at hx;subst hx;exact .refl _
  ·intro stk k F hD
   exact h5 stk (k+1) F ⟨stk,n,0+(succ g n).length,rfl,.inl ⟨by simp,hD⟩⟩
theorem post_ok {g:List (List Nat)}(hv:zw g):∃L,ul g=L++ [0]/\(ul g).Nodup/\(∀x∈ul g,x<g.length/\Desc g (ul g) 0 x/\∀s∈succ g x,s∈ul g/\([s,x].Sublist (ul g)∨Desc g (ul g) s x))/\
 ∃k,kV g k ((List.replicate g.length false).set 0 true) [(0,0)] [] (ul g):=by
 have hw:wa (List.replicate g.length false)<=g.length:=by simp[wa]
 obtain⟨L,h1,h2,h3,h4⟩:=mY hv g.length (List.replicate g.length false,[]) 0 (by simp) (by simp[hv.1]) hw
 have e:ul g=L++ [0]:=by unfold ul;rw[h1];simp
 rw[e]
 refine⟨L,rfl,h2.nodup,fun x hx=>⟨?_,h3 x hx,fun s hs=>?_⟩,?_⟩
 ·have:=((h2.mem x).1 hx).2
  have:=(List.getElem?_eq_some_iff.1 this).1
  simpa using this
 ·have hsm:s∈L++ [0]:=(h2.mem s).2 ⟨h2.edge x hx s hs,by have:=s9 hv hs;simp[this]⟩
  exact⟨hsm,h2.back x hx s hs hsm⟩
 ·obtain⟨k',hk'⟩:=h4 [] 0 (L++ [0]) ⟨rfl,by rw[h1];simp⟩
  exact⟨k',by simpa using hk'⟩
inductive Walk (E:Nat->Nat->Prop) (P:Nat->Prop):Nat->Nat->Prop
 |refl {a:Nat}:P a->Walk E P a a
 |snoc {a b c:Nat}:Walk E P a b->E b c->P c->Walk E P a c
theorem Walk.mono {E E':Nat->Nat->Prop}{P P':Nat->Prop}(hE:∀a b,P a->P b->E a b->E' a b)(hP:∀a,P a->P' a){a b:Nat}(h:Walk E P a b):P b/\Walk E' P' a b:=by
 induction h with
 |refl h=>exact⟨h,.refl (hP _ h)⟩
 |snoc _ h2 h3 ih=>exact⟨h3,.snoc ih.2 (hE _ _ ih.1 h3 h2) (hP _ h3)⟩
theorem Walk.imp {E:Nat->Nat->Prop}{P P':Nat->Prop}(hP:∀a,P a->P' a){a b:Nat}(h:Walk E P a b):Walk E P' a b:=(h.mono (fun _ _ _ _ h=>h) hP).2
theorem Walk.last {E:Nat->Nat->Prop}{P:Nat->Prop}{a b:Nat}(h:Walk E P a b):P b:=(h.mono (fun _ _ _ _ h=>h) (fun _ h=>h)).1
theorem Walk.first {E:Nat->Nat->Prop}{P:Nat->Prop}{a b:Nat}(h:Walk E P a b):P a:=by
 induction h with
 |refl h=>exact h
 |snoc _ _ _ ih=>exact ih
def Dom (E:Nat->Nat->Prop)(d x:Nat):Prop:=¬Walk E (·≠d) 0 x
def Reach (E:Nat->Nat->Prop)(x:Nat):Prop:=Walk E (fun _=>True) 0 x
theorem rF (E:Nat->Nat->Prop)(x:Nat):Dom E x x:=fun h=>h.last rfl
theorem rE {E:Nat->Nat->Prop}{d p x:Nat}(h:Dom E d x)(hne:d≠x)(hp:E p x):Dom E d p:=fun hw=>h (.snoc hw hp (Ne.symm hne))
theorem vI {E:Nat->Nat->Prop}{d:Nat}(h:Dom E d 0):d=0:=by
 by_cases e:d=0
 ·exact e
 ·exact(h (.refl (Ne.symm e))).elim
theorem kH {E:Nat->Nat->Prop}{P:Nat->Prop}{x0 x:Nat}(b:Nat)(h:Walk E P x0 x):Walk E (fun y=>P y/\y≠b) x0 x∨Walk E P x0 b:=by
 induction h with
 |refl h=>
  by_cases e:x0=b
  ·rw[<-e];exact .inr (.refl h)
  ·exact .inl (.refl ⟨h,e⟩)
 |@snoc y c h1 h2 h3 ih=>
  rcases ih with ih|ih
  ·by_cases e:c=b
   ·rw[<-e];exact .inr (.snoc h1 h2 h3)
   ·exact .inl (.snoc ih h2 ⟨h3,e⟩)
  ·exact .inr ih
theorem oZ {E:Nat->Nat->Prop}{a b c:Nat}(h:Dom E a b)(k:Dom E b c):Dom E a c:=by
 intro hw
 rcases kH b hw with h1|h1
 ·exact k (h1.imp (fun _ h=>h.2))
 ·exact h h1
theorem oT {E:Nat->Nat->Prop}{a b:Nat}(h:Dom E a b)(k:Dom E b a)(hr:Reach E a):a=b:=by
 by_cases e:a=b
 ·exact e
 have key:∀ {y:Nat},Walk E (fun _=>True) 0 y->Walk E (fun z=>z≠a/\z≠b) 0 y∨Walk E (·≠a) 0 b∨Walk E (·≠b) 0 a:=by
  intro y hw
  induction hw with
  |refl _=>
   by_cases h1:0=a
   ·exact .inr (.inr (by rw[<-h1];exact .refl (by rw[h1];exact e)))
   ·by_cases h2:0=b
    ·exact .inr (.inl (by rw[<-h2];exact .refl h1))
    ·exact .inl (.refl ⟨h1,h2⟩)
  |@snoc x c _ h2 _ ih=>
   rcases ih with ih|ih|ih
   ·by_cases h1:c=a
    ·subst h1;exact .inr (.inr (.snoc (ih.imp (fun _ h=>h.2)) h2 e))
    ·by_cases h3:c=b
     ·subst h3;exact .inr (.inl (.snoc (ih.imp (fun _ h=>h.1)) h2 (Ne.symm e)))
     ·exact .inl (.snoc ih h2 ⟨h1,h3⟩)
   ·exact .inr (.inl ih)
   ·exact .inr (.inr ih)
 rcases key hr with h1|h1|h1
 ·exact absurd rfl h1.last.1
 ·exact absurd h1 h
 ·exact absurd h1 k
inductive Anc (D:List Int):Nat->Nat->Prop
 |refl (x:Nat):Anc D x x
 |step {x y z:Nat}:D[x]? =some (y:Int)->Anc D y z->Anc D x z
theorem Anc.trans {D:List Int}{a b c:Nat}(h:Anc D a b)(k:Anc D b c):Anc D a c:=by
 induction h with
 |refl _=>exact k
 |step h1 _ ih=>exact .step h1 (ih k)
def yj (D:List Int)(x:Nat):Prop:=∃y:Nat,D[x]? =some (y:Int)
structure Ctx (n:Nat) (ns:List Nat) (preds:List (List Nat)) (f:Int->Int) (at_:Nat->Nat) (E:Nat->Nat->Prop):Prop where
 lt:∀x∈0::ns,x<n
 z:at_ 0=0
 sorted:ns.Pairwise (fun a b=>at_ a<at_ b)
 pos:∀x∈ns,0<at_ x
 inj:∀x∈0::ns,∀y∈0::ns,at_ x=at_ y->x=y
 hf:∀x∈0::ns,f (x:Int)=(at_ x:Int)
 pl:preds.length=n
 pm:∀v pr,preds[v]? =some pr->∀p,p∈pr↔E p v
 eo:∀u s,E u s->u∈0::ns/\s∈0::ns
 fw:∀v∈ns,∃p,E p v/\at_ p<at_ v
structure WF (n:Nat) (ns:List Nat) (at_:Nat->Nat) (D:List Int):Prop where
 len:D.length=n
 root:D[0]? =some 0
 up:∀x y:Nat,x≠0->D[x]? =some (y:Int)->at_ y<at_ x/\yj D y
 neg:∀(x:Nat) (v:Int),D[x]? =some v->v=-1∨∃y:Nat,v=(y:Int)
 sub:∀x:Nat,yj D x->x∈0::ns
section
variable {n:Nat} {ns:List Nat} {preds:List (List Nat)} {f:Int->Int} {at_:Nat->Nat} {E:Nat->Nat->Prop}
theorem WF.set0 {D:List Int}(h:WF n ns at_ D):yj D 0:=⟨0,h.root⟩
theorem WF.anc0 {D:List Int}(h:WF n ns at_ D){z:Nat}(ha:Anc D 0 z):z=0:=by
 have:∀ {x z:Nat},Anc D x z->x=0->z=0:=by
  intro x z ha
  induction ha with
  |refl _=>exact id
  |@step x y z h1 _ ih=>
   rintro rfl
   rw[h.root] at h1
   exact ih (by have:=Option.some.inj h1;omega)
 exact this ha rfl
theorem WF.anc_le {D:List Int}(h:WF n ns at_ D){x z:Nat}(ha:Anc D x z):yj D x->(z=x∨at_ z<at_ x)/\yj D z:=by
 induction ha with
 |refl x=>exact fun hs=>⟨.inl rfl,hs⟩
 |@step x y z h1 h2 ih=>
  intro hs
  by_cases hx:x=0
  ·subst hx
   rw[h.root] at h1
   have hy:y=0:=by have:=Option.some.inj h1;omega
   subst hy
   exact ih hs
  ·obtain⟨h3,h4⟩:=h.up x y hx h1
   obtain⟨h5,h6⟩:=ih h4
   refine⟨.inr ?_,h6⟩
   rcases h5 with rfl|h5<;>omega
theorem WF.le {D:List Int}(h:WF n ns at_ D){x z:Nat}(ha:Anc D x z)(hs:yj D x):at_ z<=at_ x:=by
 rcases(h.anc_le ha hs).1 with rfl|h1<;>omega
theorem WF.lt {D:List Int}(h:WF n ns at_ D){x:Nat}(hs:yj D x):x<D.length:=by
 obtain⟨y,hy⟩:=hs;exact(List.getElem?_eq_some_iff.1 hy).1
theorem up_ok (hc:Ctx n ns preds f at_ E){D:List Int}(h:WF n ns at_ D)(t:Nat):∀(m a:Nat),at_ a<=m->yj D a->
 ∃k r,UpN D f (t:Int) k a r/\Anc D a r/\yj D r/\at_ r<=t/\(r=a∨at_ r<at_ a)/\∀z,Anc D a z->at_ z<=t->Anc D r z
 |m,a,hm,hs=>by
  have hfa:=hc.hf a (h.sub a hs)
  by_cases hle:at_ a<=t
  ·exact⟨0,a,⟨by rw[hfa];omega,rfl⟩,.refl _,hs,hle,.inl rfl,fun z hz _=>hz⟩
  ·have ha0:a≠0:=by rintro rfl;rw[hc.z] at hle;omega
   have hs0:=hs
   obtain⟨y,hy⟩:=hs
   obtain⟨h1,h2⟩:=h.up a y ha0 hy
   cases m with
   |zero=>omega
   |succ m=>
    obtain⟨k,r,a1,a2,a3,a4,a5,a6⟩:=up_ok hc h t m y (by omega) h2
    refine⟨k+1,r,⟨by rw[hfa];omega,y,h.lt h2,hy,a1⟩,.step hy a2,a3,a4,.inr (by rcases a5 with rfl|a5<;>omega),fun z hz hzt=>?_⟩
    cases hz with
    |refl _=>omega
    |@step _ y' _ h3 h4=>
     rw[hy] at h3
     have:y=y':=by have:=Option.some.inj h3;omega
     subst this
     exact a6 z h4 hzt
theorem kk (hc:Ctx n ns preds f at_ E){D:List Int}(h:WF n ns at_ D):∀(m a b:Nat),at_ a+at_ b<=m->yj D a->yj D b->
 ∃k r,qZ D f k a b r/\yj D r/\∀z,Anc D r z↔Anc D a z/\Anc D b z
 |m,a,b,hm,ha,hb=>by
  by_cases e:a=b
  ·subst e;exact⟨0,a,⟨rfl,rfl⟩,ha,fun z=>by simp⟩
  ·obtain⟨j,a',u1,u2,u3,u4,u5,u6⟩:=up_ok hc h (at_ b) (at_ a) a (Nat.le_refl _) ha
   obtain⟨j',b',v1,v2,v3,v4,v5,v6⟩:=up_ok hc h (at_ a') (at_ b) b (Nat.le_refl _) hb
   have hlt:at_ a'+at_ b'<at_ a+at_ b:=by
    rcases u5 with rfl|u5
    ·rcases v5 with rfl|v5
     ·exact absurd (hc.inj _ (h.sub _ ha) _ (h.sub _ hb) (by omega)) e
     ·omega
    ·rcases v5 with rfl|v5<;>omega
   cases m with
   |zero=>omega
   |succ m=>
    obtain⟨k,r,r1,r2,r3⟩:=kk hc h m a' b' (by omega) u3 v3
    refine⟨k+1,r,⟨e,j,a',by rw[hc.hf b (h.sub b hb)];exact u1,j',b',by rw[hc.hf a' (h.sub a' u3)];exact v1,r1⟩,r2,fun z=>?_⟩
    rw[r3]
    constructor
    ·rintro⟨h1,h2⟩;exact⟨u2.trans h1,v2.trans h2⟩
    ·rintro⟨h1,h2⟩
     have h3:=u6 z h1 (h.le h2 hb)
     exact⟨h3,v6 z h2 (h.le h3 u3)⟩
def hT (D:List Int)(S:List Nat)(d:Int):Prop:=
 (d=-1/\∀p∈S,¬yj D p)∨∃dn:Nat,d=(dn:Int)/\yj D dn/\∀z,Anc D dn z↔∀p∈S,yj D p->Anc D p z
theorem jJ (hc:Ctx n ns preds f at_ E){D:List Int}(h:WF n ns at_ D){p:Nat}(hp:p<D.length){S:List Nat}{d:Int}(hd:hT D S d):
 ∃d1,hT D (S++ [p]) d1/\mJ D f p d d1:=by
 obtain⟨x,hx⟩:∃x,D[p]? =some x:=⟨_,List.getElem?_eq_getElem hp⟩
 rcases h.neg p x hx with rfl|⟨y,rfl⟩
 ·have hns:¬yj D p:=fun⟨y,hy⟩=>by rw[hx] at hy;have:=Option.some.inj hy;omega
  refine⟨d,?_,-1,hx,.inl ⟨by omega,rfl⟩⟩
  rcases hd with⟨h1,h2⟩|⟨dn,h1,h2,h3⟩
  ·exact .inl ⟨h1,fun q hq=>by rcases List.mem_append.1 hq with hq|hq;exact h2 q hq;simp at hq;subst hq;exact hns⟩
  ·refine .inr ⟨dn,h1,h2,fun z=>?_⟩
   rw[h3]
   constructor
   ·intro ha q hq hs
    rcases List.mem_append.1 hq with hq|hq
    ·exact ha q hq hs
    ·simp at hq;subst hq;exact absurd hs hns
   ·exact fun ha q hq hs=>ha q (List.mem_append.2 (.inl hq)) hs
 ·have hs:yj D p:=⟨y,hx⟩
  rcases hd with⟨rfl,h2⟩|⟨dn,rfl,h2,h3⟩
  ·refine⟨(p:Int),.inr ⟨p,rfl,hs,fun z=>?_⟩,_,hx,.inr (.inl ⟨by omega,by omega,rfl⟩)⟩
   constructor
   ·intro ha q hq hq2
    rcases List.mem_append.1 hq with hq|hq
    ·exact absurd hq2 (h2 q hq)
    ·simp at hq;subst hq;exact ha
   ·exact fun ha=>ha p (by simp) hs
  ·obtain⟨k,r,r1,r2,r3⟩:=kk hc h _ p dn (Nat.le_refl _) hs h2
   refine⟨(r:Int),.inr ⟨r,rfl,r2,fun z=>?_⟩,_,hx,.inr (.inr ⟨by omega,dn,rfl,h.lt h2,k,r,r1,rfl⟩)⟩
   rw[r3,h3]
   constructor
   ·rintro⟨h4,h5⟩ q hq hq2
    rcases List.mem_append.1 hq with hq|hq
    ·exact h5 q hq hq2
    ·simp at hq;subst hq;exact h4
   ·exact fun ha=>⟨ha p (by simp) hs,fun q hq hq2=>ha q (List.mem_append.2 (.inl hq)) hq2⟩
theorem mt (hc:Ctx n ns preds f at_ E){D:List Int}(h:WF n ns at_ D):∀(l S:List Nat) (d:Int),(∀p∈l,p<D.length)->hT D S d->∃d1,hT D (S++l) d1/\wi D f l d d1
 | [],S,d,_,hd=>⟨d,by simpa using hd,rfl⟩
 |p::l,S,d,hl,hd=>by
  obtain⟨d1,h1,h2⟩:=jJ hc h (hl p (by simp)) hd
  obtain⟨d2,h3,h4⟩:=mt hc h l (S++ [p]) d1 (fun q hq=>hl q (by simp[hq])) h1
  exact⟨d2,by simpa using h3,d1,h2,h4⟩
theorem tot_ok (hc:Ctx n ns preds f at_ E){D:List Int}(h:WF n ns at_ D)(l:List Nat)(hl:∀p∈l,p<D.length):TotR D f l:=by
 intro p hp
 refine⟨hl p hp,fun d hd=>?_⟩
 have key:∀d1 S,hT D S d1->OkD D d1:=by
  rintro d1 S (⟨h1,_⟩|⟨dn,rfl,⟨y,hy⟩,_⟩)
  ·exact .inl h1
  ·exact .inr ⟨dn,rfl,(List.getElem?_eq_some_iff.1 hy).1,_,hy,by omega⟩
 have hcd:∃S,hT D S d:=by
  rcases hd with rfl|⟨dn,rfl,h1,x,hx,hx0⟩
  ·exact⟨[],.inl ⟨rfl,by simp⟩⟩
  ·have hs:yj D dn:=by rcases h.neg dn x hx with rfl|⟨y,rfl⟩;omega;exact⟨y,hx⟩
   exact⟨[dn],.inr ⟨dn,rfl,hs,fun z=>⟨fun ha q hq _=>by simp at hq;subst hq;exact ha,fun ha=>ha dn (by simp) hs⟩⟩⟩
 obtain⟨S,hS⟩:=hcd
 obtain⟨d1,h1,h2⟩:=jJ hc h (hl p hp) hS
 exact⟨d1,key _ _ h1,h2⟩
def NodeOk (at_:Nat->Nat)(E:Nat->Nat->Prop)(E1:List Int)(v:Nat)(dn:Nat):Prop:=
 at_ dn<at_ v/\yj E1 dn/\∀z,Anc E1 dn z↔∀p,E p v->yj E1 p->Anc E1 p z
theorem node_ok (hc:Ctx n ns preds f at_ E){D:List Int}(h:WF n ns at_ D){v:Nat}(hv:v∈ns)(hs:∀x∈0::ns,at_ x<at_ v->yj D x):
 ∃pr dn,preds[v]? =some pr/\TotR D f pr/\wi D f pr (-1) (dn:Nat)/\NodeOk at_ E D v dn:=by
 have hvn:=hc.lt v (by simp[hv])
 obtain⟨pr,hpr⟩:∃pr,preds[v]? =some pr:=⟨_,List.getElem?_eq_getElem (by rw[hc.pl];exact hvn)⟩
 have hm:=hc.pm v pr hpr
 have hlt:∀p∈pr,p<D.length:=fun p hp=>by rw[h.len];exact hc.lt p (hc.eo _ _ ((hm p).1 hp)).1
 obtain⟨d,h1,h2⟩:=mt hc h pr [] (-1) hlt (.inl ⟨rfl,by simp⟩)
 obtain⟨p0,hp0,hlt0⟩:=hc.fw v hv
 have hs0:=hs p0 (hc.eo _ _ hp0).1 hlt0
 rcases h1 with⟨_,h1⟩|⟨dn,rfl,h3,h4⟩
 ·exact absurd hs0 (h1 p0 (by simpa using(hm p0).2 hp0))
 ·have h4':∀z,Anc D dn z↔∀p,E p v->yj D p->Anc D p z:=fun z=>by
   rw[h4]
   exact⟨fun ha p hp=>ha p (by simpa using(hm p).2 hp),fun ha p hp=>ha p ((hm p).1 (by simpa using hp))⟩
  have:=h.le (((h4' dn).1 (.refl _)) p0 hp0 hs0) hs0
  exact⟨pr,dn,hpr,tot_ok hc h pr hlt,h2,by omega,h3,h4'⟩
theorem WF.put {D:List Int}(hc:Ctx n ns preds f at_ E)(h:WF n ns at_ D){v dn:Nat}(hv:v∈ns)(h1:at_ dn<at_ v)(h2:yj D dn):WF n ns at_ (D.set v (dn:Int)):=by
 have hvn:=hc.lt v (by simp[hv])
 have hv0:v≠0:=by rintro rfl;have:=hc.pos 0 hv;rw[hc.z] at this;omega
 have hvl:v<D.length:=by rw[h.len];exact hvn
 have key:∀x,yj D x->yj (D.set v (dn:Int)) x:=by
  rintro x ⟨y,hy⟩
  by_cases e:v=x
  ·subst e;exact⟨dn,by rw[List.getElem?_set_self hvl]⟩
  ·exact⟨y,by rw[List.getElem?_set_ne e];exact hy⟩
 refine⟨by simpa using h.len,by rw[List.getElem?_set_ne hv0];exact h.root,?_,?_,?_⟩
 ·intro x y hx hy
  by_cases e:v=x
  ·subst e
   rw[List.getElem?_set_self hvl] at hy
   have:dn=y:=by have:=Option.some.inj hy;omega
   subst this
   exact⟨h1,key _ h2⟩
  ·rw[List.getElem?_set_ne e] at hy
   obtain⟨h3,h4⟩:=h.up x y hx hy
   exact⟨h3,key _ h4⟩
 ·intro x w hw
  by_cases e:v=x
  ·subst e
   rw[List.getElem?_set_self hvl] at hw
   exact .inr ⟨dn,(Option.some.inj hw).symm⟩
  ·rw[List.getElem?_set_ne e] at hw
   exact h.neg x w hw
 ·rintro x ⟨y,hy⟩
  by_cases e:v=x
  ·subst e;simp[hv]
  ·rw[List.getElem?_set_ne e] at hy
   exact h.sub x ⟨y,hy⟩
def ow (ns:List Nat)(at_:Nat->Nat)(E:Nat->Nat->Prop)(n:Nat)(l:List Nat)(D D':List Int):Prop:=
 ∀v∈l,∃(E1:List Int) (dn:Nat),WF n ns at_ E1/\(∀y∈0::ns,at_ y<at_ v->E1[y]? =D'[y]?)/\(∀y:Nat,at_ v<=at_ y->E1[y]? =D[y]?)/\D'[v]? =some (dn:Int)/\NodeOk at_ E E1 v dn
theorem nh (hc:Ctx n ns preds f at_ E):∀(l:List Nat) (D:List Int) (ch:Bool),WF n ns at_ D->(∀v∈l,v∈ns)->l.Pairwise (fun a b=>at_ a<at_ b)->(∀x∈0::ns,x ∉ l->yj D x/\∀v∈l,at_ x<at_ v)->
 ∃D' ch',ny preds f l D ch D' ch'/\WF n ns at_ D'/\(∀x:Nat,x ∉ l->D'[x]? =D[x]?)/\ow ns at_ E n l D D'/\(∀x∈0::ns,yj D' x)/\(ch'=false->ch=false/\D'=D)/\(ch'=true->ch=true∨D'≠D)
 | [],D,ch,h,_,_,hs=>⟨D,ch,⟨rfl,rfl⟩,h,fun _ _=>rfl,fun v hv=>by simp at hv,fun x hx=>(hs x hx (by simp)).1,fun e=>⟨e,rfl⟩,.inl⟩
 |v::l,D,ch,h,hl,hp,hs=>by
  have hv:=hl v (by simp)
  have hp1:=(List.pairwise_cons.1 hp).1
  have hp2:=(List.pairwise_cons.1 hp).2
  have hvl:v ∉ l:=fun hm=>by have:=hp1 v hm;omega
  have hsv:∀x∈0::ns,at_ x<at_ v->yj D x:=by
   intro x hx hlt
   by_cases hm:x∈v::l
   ·rcases List.mem_cons.1 hm with rfl|hm
    ·omega
    ·have:=hp1 x hm;omega
   ·exact(hs x hx hm).1
  obtain⟨pr,dn,b1,b2,b3,b4⟩:=node_ok hc h hv hsv
  have hvn:v<D.length:=by rw[h.len];exact hc.lt v (by simp[hv])
  obtain⟨old,hold⟩:∃old,D[v]? =some old:=⟨_,List.getElem?_eq_getElem hvn⟩
  have hw1:=h.put hc hv b4.1 b4.2.1
  have hself:(D.set v (dn:Int))[v]? =some (dn:Int):=List.getElem?_set_self hvn
  have hother:∀y:Nat,y≠v->(D.set v (dn:Int))[y]? =D[y]?:=fun y hy=>List.getElem?_set_ne (Ne.symm hy)
  obtain⟨D',ch',c1,c2,c3,c4,c5,c6,c7⟩:=nh hc l (D.set v (dn:Int)) (if old=(dn:Int) then ch else true) hw1 (fun x hx=>hl x (by simp[hx])) hp2 (by
   intro x hx hm
   by_cases e:x=v
   ·subst e;exact⟨⟨dn,hself⟩,hp1⟩
   ·have:=hs x hx (by simp[e,hm])
    obtain⟨⟨y,hy⟩,h2⟩:=this
    exact⟨⟨y,by rw[hother x e];exact hy⟩,fun u hu=>h2 u (by simp[hu])⟩)
  refine⟨D',ch',⟨pr,dn,old,b1,b2,b3,hold,?_⟩,c2,?_,?_,c5,?_,?_⟩
  ·by_cases e:old=(dn:Int)
   ·refine .inl ⟨e,?_⟩
    have e2:D.set v (dn:Int)=D:=by
     apply List.ext_getElem?
     intro i
     by_cases hi:i=v
     ·subst hi;rw[hself,hold,e]
     ·exact hother i hi
    rw[if_pos e,e2] at c1
    exact c1
   ·rw[if_neg e] at c1
    exact .inr ⟨e,c1⟩
  ·intro x hx
   rw[c3 x (fun hm=>hx (by simp[hm])),hother x (fun e=>hx (by simp[e]))]
  ·intro u hu0
   rcases List.mem_cons.1 hu0 with rfl|hu
   ·refine⟨D,dn,h,fun y hy hlt=>?_,fun _ _=>rfl,by rw[c3 u hvl];exact hself,b4⟩
    rw[c3 y (fun hm=>by have:=hp1 y hm;omega),hother y (fun e=>by subst e;omega)]
   ·obtain⟨E1,d1,e1,e2,e3,e4,e5⟩:=c4 u hu
    refine⟨E1,d1,e1,e2,fun y hy=>?_,e4,e5⟩
    rw[e3 y hy,hother y (fun e=>by have:=hp1 u hu;rw[e] at hy;omega)]
  ·intro e
   obtain⟨d1,d2⟩:=c6 e
   by_cases e':old=(dn:Int)
   ·rw[if_pos e'] at d1
    refine⟨d1,d2.trans ?_⟩
    apply List.ext_getElem?
    intro i
    by_cases hi:i=v
    ·subst hi;rw[hself,hold,e']
    ·exact hother i hi
   ·rw[if_neg e'] at d1;simp at d1
  ·intro e
   by_cases e':old=(dn:Int)
   ·have e2:D.set v (dn:Int)=D:=by
     apply List.ext_getElem?
     intro i
     by_cases hi:i=v
     ·subst hi;rw[hself,hold,e']
     ·exact hother i hi
    rcases c7 e with c7|c7
    ·rw[if_pos e'] at c7;exact .inl c7
    ·rw[e2] at c7;exact .inr c7
   ·refine .inr (fun e3=>e' ?_)
    have h1:=c3 v hvl
    rw[hself,e3,hold] at h1
    exact Option.some.inj h1
end
section
variable {n:Nat} {ns:List Nat} {preds:List (List Nat)} {f:Int->Int} {at_:Nat->Nat} {E:Nat->Nat->Prop}
theorem tr {D D':List Int}(h:WF n ns at_ D){x z:Nat}(ha:Anc D x z):yj D x->(∀y∈0::ns,at_ y<=at_ x->D[y]? =D'[y]?)->Anc D' x z:=by
 induction ha with
 |refl x=>exact fun _ _=> .refl x
 |@step x y z h1 h2 ih=>
  intro hs heq
  have hx:=heq x (h.sub x hs) (Nat.le_refl _)
  have h3:=(h.anc_le (.step h1 (.refl y)) hs)
  have hle:at_ y<=at_ x:=by rcases h3.1 with rfl|h4<;>omega
  exact .step (hx ▸ h1) (ih h3.2 (fun u hu hle'=>heq u hu (by omega)))
structure RI (n:Nat) (ns:List Nat) (at_:Nat->Nat) (E:Nat->Nat->Prop) (D:List Int):Prop where
 wf:WF n ns at_ D
 all:∀x∈0::ns,yj D x
 H:∀v∈ns,∀p,E p v->at_ p<at_ v->∀z,Anc D v z->z≠v->Anc D p z
 J:∀v∈ns,∀z,(∀p,E p v->Anc D p z)->Anc D v z
 S:∀v∈0::ns,∀z,Dom E z v->Anc D v z
theorem xo {E1 D D':List Int}{v:Nat}(h1:WF n ns at_ E1)(h':WF n ns at_ D')(ha:∀y∈0::ns,at_ y<at_ v->E1[y]? =D'[y]?){x:Nat}(hs:yj E1 x)(hs':yj D' x)(hlt:at_ x<at_ v)(z:Nat):
 Anc E1 x z↔Anc D' x z:=
 ⟨fun h=>tr h1 h hs (fun y hy hle=>ha y hy (by omega)),fun h=>tr h' h hs' (fun y hy hle=>(ha y hy (by omega)).symm)⟩
theorem ns_ne0 (hc:Ctx n ns preds f at_ E){v:Nat}(hv:v∈ns):v≠0:=by rintro rfl;have:=hc.pos 0 hv;rw[hc.z] at this;omega
theorem nr (hc:Ctx n ns preds f at_ E){D':List Int}(h':WF n ns at_ D')(hall:∀x∈0::ns,yj D' x)(hp:ow ns at_ E n ns ((0:Int)::List.replicate (n-1) (-1)) D'):RI n ns at_ E D':=by
 have hD0:∀y:Nat,y≠0->∀w:Nat,((0:Int)::List.replicate (n-1) (-1))[y]?≠some (w:Int):=by
  intro y hy w
  cases y with
  |zero=>exact absurd rfl hy
  |succ y=>
   rw[List.getElem?_cons_succ,List.getElem?_replicate]
   split
   ·intro e;have:=Option.some.inj e;omega
   ·simp
 have key:∀v∈ns,∃dn:Nat,D'[v]? =some (dn:Int)/\at_ dn<at_ v/\∀z,Anc D' dn z↔∀p,E p v->at_ p<at_ v->Anc D' p z:=by
  intro v hv
  obtain⟨E1,dn,e1,e2,e3,e4,e5,e6,e7⟩:=hp v hv
  have hset:∀p∈0::ns,at_ p<at_ v->yj E1 p:=fun p hp hlt=>by
   obtain⟨y,hy⟩:=hall p hp
   exact⟨y,by rw[e2 p hp hlt];exact hy⟩
  refine⟨dn,e4,e5,fun z=>?_⟩
  rw[<-xo (D:=D') e1 h' e2 e6 (hall dn (e1.sub dn e6)) e5 z,e7]
  constructor
  ·intro h p hpv hlt
   have hpo:=(hc.eo _ _ hpv).1
   exact(xo (D:=D') e1 h' e2 (hset p hpo hlt) (hall p hpo) hlt z).1 (h p hpv (hset p hpo hlt))
  ·intro h p hpv hs
   have hpo:=(hc.eo _ _ hpv).1
   by_cases hlt:at_ p<at_ v
   ·exact(xo (D:=D') e1 h' e2 hs (hall p hpo) hlt z).2 (h p hpv hlt)
   ·obtain⟨y,hy⟩:=hs
    rw[e3 p (by omega)] at hy
    by_cases hp0:p=0
    ·subst hp0;rw[hc.z] at hlt;omega
    ·exact absurd hy (hD0 p hp0 y)
 have hup:∀v∈ns,∀dn:Nat,D'[v]? =some (dn:Int)->∀z,Anc D' v z->z≠v->Anc D' dn z:=by
  intro v hv dn hdn z hz hne
  cases hz with
  |refl _=>exact absurd rfl hne
  |@step _ y _ h1 h2=>
   rw[hdn] at h1
   have:dn=y:=by have:=Option.some.inj h1;omega
   subst this;exact h2
 refine⟨h',hall,?_,?_,?_⟩
 ·intro v hv p hpv hlt z hz hne
  obtain⟨dn,k1,k2,k3⟩:=key v hv
  exact(k3 z).1 (hup v hv dn k1 z hz hne) p hpv hlt
 ·intro v hv z hz
  obtain⟨dn,k1,k2,k3⟩:=key v hv
  exact .step k1 ((k3 z).2 (fun p hpv _=>hz p hpv))
 ·have hS:∀(m v:Nat),at_ v<=m->v∈0::ns->∀z,Dom E z v->Anc D' v z:=by
   intro m
   induction m with
   |zero=>
    intro v hm hv z hz
    rcases List.mem_cons.1 hv with rfl|hv
    ·have:=vI hz;subst this;exact .refl _
    ·have:=hc.pos v hv;omega
   |succ m ih=>
    intro v hm hv z hz
    rcases List.mem_cons.1 hv with rfl|hv
    ·have:=vI hz;subst this;exact .refl _
    ·by_cases e:z=v
     ·subst e;exact .refl _
     ·obtain⟨dn,k1,k2,k3⟩:=key v hv
      exact .step k1 ((k3 z).2 (fun p hpv hlt=>ih p (by omega) (hc.eo _ _ hpv).1 z (rE hz e hpv)))
  exact fun v hv z hz=>hS _ v (Nat.le_refl _) hv z hz
theorem kT (hc:Ctx n ns preds f at_ E){D D':List Int}(h:RI n ns at_ E D)(h':WF n ns at_ D')(hall:∀x∈0::ns,yj D' x)(hp:ow ns at_ E n ns D D'):
 RI n ns at_ E D'/\∀v∈0::ns,∀z,Anc D' v z->Anc D v z:=by
 have hset:∀v∈ns,∀E1:List Int,(∀y∈0::ns,at_ y<at_ v->E1[y]? =D'[y]?)->(∀y:Nat,at_ v<=at_ y->E1[y]? =D[y]?)->∀p∈0::ns,yj E1 p:=by
  intro v hv E1 e2 e3 p hp
  by_cases hlt:at_ p<at_ v
  ·obtain⟨y,hy⟩:=hall p hp;exact⟨y,by rw[e2 p hp hlt];exact hy⟩
  ·obtain⟨y,hy⟩:=h.all p hp;exact⟨y,by rw[e3 p (by omega)];exact hy⟩
 have L1:∀v∈ns,∀E1:List Int,WF n ns at_ E1->(∀y∈0::ns,at_ y<at_ v->E1[y]? =D'[y]?)->(∀y:Nat,at_ v<=at_ y->E1[y]? =D[y]?)->∀ {p z:Nat},Anc E1 p z->p∈0::ns->at_ v<=at_ p->
  (at_ v<=at_ z/\Anc D p z)∨(at_ z<at_ v/\∃u∈0::ns,Anc D p u/\at_ u<at_ v/\Anc D' u z):=by
  intro v hv E1 e1 e2 e3 p z ha
  induction ha with
  |refl p=>exact fun _ hle=> .inl ⟨hle,.refl _⟩
  |@step p c z h1 h2 ih=>
   intro hpo hle
   have hps:yj E1 p:=⟨c,h1⟩
   have hcs:=(e1.anc_le (.step h1 (.refl c)) hps).2
   have hco:=e1.sub c hcs
   have hD:D[p]? =some (c:Int):=by rw[<-e3 p hle];exact h1
   by_cases hlt:at_ c<at_ v
   ·have hz:=e1.le h2 hcs
    exact .inr ⟨by omega,c,hco,.step hD (.refl c),hlt,(xo (D:=D') e1 h' e2 hcs (hall c hco) hlt z).1 h2⟩
   ·rcases ih hco (by omega) with⟨a,b⟩|⟨a,u,b,b',b'',b'''⟩
    ·exact .inl ⟨a,.step hD b⟩
    ·exact .inr ⟨a,u,b,.step hD b',b'',b'''⟩
 have L2:∀v∈ns,∀E1:List Int,(∀y:Nat,at_ v<=at_ y->E1[y]? =D[y]?)->∀ {p z:Nat},Anc D p z->yj D p->at_ v<=at_ p->at_ z<at_ v->∃u∈0::ns,Anc D p u/\at_ u<at_ v/\Anc D u z/\Anc E1 p u:=by
  intro v hv E1 e3 p z ha
  induction ha with
  |refl p=>intro _ h1 h2;omega
  |@step p c z h1 h2 ih=>
   intro hps hle hlt
   have hcs:=(h.wf.anc_le (.step h1 (.refl c)) hps).2
   have hE:E1[p]? =some (c:Int):=by rw[e3 p hle];exact h1
   by_cases hl:at_ c<at_ v
   ·exact⟨c,h.wf.sub c hcs,.step h1 (.refl c),hl,h2,.step hE (.refl c)⟩
   ·obtain⟨u,a,b,b',b'',b'''⟩:=ih hcs (by omega) hlt
    exact⟨u,a,.step h1 b,b',b'',.step hE b'''⟩
 have hup:∀ {B:List Int} {v dn:Nat},B[v]? =some (dn:Int)->∀ {z:Nat},Anc B v z->z≠v->Anc B dn z:=by
  intro B v dn hdn z hz hne
  cases hz with
  |refl _=>exact absurd rfl hne
  |@step _ y _ h1 h2=>
   rw[hdn] at h1
   have:dn=y:=by have:=Option.some.inj h1;omega
   subst this;exact h2
 have C:∀(m v:Nat),at_ v<=m->v∈0::ns->(∀z,Anc D' v z->Anc D v z)/\∀u,Anc D v u->∀z,Anc D' v z->at_ z<=at_ u->Anc D' u z:=by
  intro m
  have base:(∀z,Anc D' 0 z->Anc D 0 z)/\∀u,Anc D 0 u->∀z,Anc D' 0 z->at_ z<=at_ u->Anc D' u z:=
   ⟨fun z hz=>by have:=h'.anc0 hz;subst this;exact .refl _,fun u hu z hz _=>by have:=h.wf.anc0 hu;subst this;exact hz⟩
  induction m with
  |zero=>
   intro v hm hv
   rcases List.mem_cons.1 hv with rfl|hv
   ·exact base
   ·have:=hc.pos v hv;omega
  |succ m ih=>
   intro v hm hv
   rcases List.mem_cons.1 hv with rfl|hv
   ·exact base
   ·obtain⟨E1,dn,e1,e2,e3,e4,e5,e6,e7⟩:=hp v hv
    have hvo:v∈0::ns:=by simp[hv]
    have hes:=hset v hv E1 e2 e3
    obtain⟨f0,hf0,hf1⟩:=hc.fw v hv
    have hall1:∀z,Anc D' v z->z≠v->at_ z<at_ v/\∀p,E p v->Anc E1 p z:=by
     intro z hz hne
     have h1:=hup e4 hz hne
     have hdo:=e1.sub dn e6
     have h2:=h'.le h1 (hall dn hdo)
     exact⟨by omega,fun p hpv=>(e7 z).1 ((xo (D:=D') e1 h' e2 e6 (hall dn hdo) e5 z).2 h1) p hpv (hes p (hc.eo _ _ hpv).1)⟩
    refine⟨fun z hz=>?_,fun u hu z hz hzu=>?_⟩
    ·by_cases e:z=v
     ·subst e;exact .refl _
     ·obtain⟨hzv,hzp⟩:=hall1 z hz e
      refine h.J v hv z (fun p hpv=>?_)
      have hpo:=(hc.eo _ _ hpv).1
      by_cases hlt:at_ p<at_ v
      ·exact(ih p (by omega) hpo).1 z ((xo (D:=D') e1 h' e2 (hes p hpo) (hall p hpo) hlt z).1 (hzp p hpv))
      ·rcases L1 v hv E1 e1 e2 e3 (hzp p hpv) hpo (by omega) with⟨a,_⟩|⟨_,u,b,b',b'',b'''⟩
       ·omega
       ·exact b'.trans ((ih u (by omega) b).1 z b''')
    ·by_cases e:u=v
     ·subst e;exact hz
     ·have hzne:z≠v:=by
       rintro rfl
       rcases(h.wf.anc_le hu (h.all z hvo)).1 with h1|h1
       ·exact e h1
       ·omega
      obtain⟨hzv,hzp⟩:=hall1 z hz hzne
      have hfo:=(hc.eo _ _ hf0).1
      exact(ih f0 (by omega) hfo).2 u (h.H v hv f0 hf0 hf1 u hu e) z ((xo (D:=D') e1 h' e2 (hes f0 hfo) (hall f0 hfo) hf1 z).1 (hzp f0 hf0)) hzu
 have C1:∀v∈0::ns,∀z,Anc D' v z->Anc D v z:=fun v hv=>(C _ v (Nat.le_refl _) hv).1
 have C2:∀v∈0::ns,∀u,Anc D v u->∀z,Anc D' v z->at_ z<=at_ u->Anc D' u z:=fun v hv=>(C _ v (Nat.le_refl _) hv).2
 have SS:∀(m p:Nat),at_ p<=m->p∈0::ns->∀u,Anc D p u->∀z,Dom E z p->at_ z<=at_ u->Dom E z u:=by
  intro m
  induction m with
  |zero=>
   intro p hm hpo u hu z hz _
   rcases List.mem_cons.1 hpo with rfl|hv
   ·have:=h.wf.anc0 hu;subst this;exact hz
   ·have:=hc.pos p hv;omega
  |succ m ih=>
   intro p hm hpo u hu z hz hzu
   rcases List.mem_cons.1 hpo with rfl|hv
   ·have:=h.wf.anc0 hu;subst this;exact hz
   ·by_cases e:u=p
    ·subst e;exact hz
    ·obtain⟨f0,hf0,hf1⟩:=hc.fw p hv
     have hzne:z≠p:=by
      rintro rfl
      rcases(h.wf.anc_le hu (h.all z hpo)).1 with h1|h1
      ·exact e h1
      ·omega
     exact ih f0 (by omega) (hc.eo _ _ hf0).1 u (h.H p hv f0 hf0 hf1 u hu e) z (rE hz hzne hf0) hzu
 refine⟨⟨h',hall,?_,?_,?_⟩,C1⟩
 ·intro v hv p hpv hlt z hz hne
  obtain⟨E1,dn,e1,e2,e3,e4,e5,e6,e7⟩:=hp v hv
  have hes:=hset v hv E1 e2 e3
  have hdo:=e1.sub dn e6
  have hpo:=(hc.eo _ _ hpv).1
  have h1:=(xo (D:=D') e1 h' e2 e6 (hall dn hdo) e5 z).2 (hup e4 hz hne)
  exact(xo (D:=D') e1 h' e2 (hes p hpo) (hall p hpo) hlt z).1 ((e7 z).1 h1 p hpv (hes p hpo))
 ·intro v hv z hz
  obtain⟨E1,dn,e1,e2,e3,e4,e5,e6,e7⟩:=hp v hv
  have hes:=hset v hv E1 e2 e3
  have hdo:=e1.sub dn e6
  obtain⟨f0,hf0,hf1⟩:=hc.fw v hv
  have hz0:=h'.le (hz f0 hf0) (hall f0 (hc.eo _ _ hf0).1)
  refine .step e4 ((xo (D:=D') e1 h' e2 e6 (hall dn hdo) e5 z).1 ((e7 z).2 (fun p hpv _=>?_)))
  have hpo:=(hc.eo _ _ hpv).1
  by_cases hlt:at_ p<at_ v
  ·exact(xo (D:=D') e1 h' e2 (hes p hpo) (hall p hpo) hlt z).2 (hz p hpv)
  ·obtain⟨u,b,b',b'',b3,b4⟩:=L2 v hv E1 e3 (C1 p hpo z (hz p hpv)) (h.all p hpo) (by omega) (by omega)
   have h1:=C2 p hpo u b' z (hz p hpv) (h.wf.le b3 (h.all u b))
   exact b4.trans ((xo (D:=D') e1 h' e2 (hes u b) (hall u b) b'' z).2 h1)
 ·have hS:∀(m v:Nat),at_ v<=m->v∈0::ns->∀z,Dom E z v->Anc D' v z:=by
   intro m
   induction m with
   |zero=>
    intro v hm hv z hz
    rcases List.mem_cons.1 hv with rfl|hv
    ·have:=vI hz;subst this;exact .refl _
    ·have:=hc.pos v hv;omega
   |succ m ih=>
    intro v hm hv z hz
    rcases List.mem_cons.1 hv with rfl|hv
    ·have:=vI hz;subst this;exact .refl _
    ·by_cases e:z=v
     ·subst e;exact .refl _
     ·obtain⟨E1,dn,e1,e2,e3,e4,e5,e6,e7⟩:=hp v hv
      have hes:=hset v hv E1 e2 e3
      have hdo:=e1.sub dn e6
      obtain⟨f0,hf0,hf1⟩:=hc.fw v hv
      have hf0o:=(hc.eo _ _ hf0).1
      have hz0:=h'.le (ih f0 (by omega) hf0o z (rE hz e hf0)) (hall f0 hf0o)
      refine .step e4 ((xo (D:=D') e1 h' e2 e6 (hall dn hdo) e5 z).1 ((e7 z).2 (fun p hpv _=>?_)))
      have hpo:=(hc.eo _ _ hpv).1
      have hzp:=rE hz e hpv
      by_cases hlt:at_ p<at_ v
      ·exact(xo (D:=D') e1 h' e2 (hes p hpo) (hall p hpo) hlt z).2 (ih p (by omega) hpo z hzp)
      ·obtain⟨u,b,b',b'',b3,b4⟩:=L2 v hv E1 e3 (h.S p hpo z hzp) (h.all p hpo) (by omega) (by omega)
       have h1:=SS _ p (Nat.le_refl _) hpo u b' z hzp (h.wf.le b3 (h.all u b))
       exact b4.trans ((xo (D:=D') e1 h' e2 (hes u b) (hall u b) b'' z).2 (ih u (by omega) b z h1))
  exact fun v hv z hz=>hS _ v (Nat.le_refl _) hv z hz
def meas (at_:Nat->Nat)(ns:List Nat)(D:List Int):Nat:=(ns.map fun x=>at_ (D.getD x 0).toNat).sum
theorem sum_le (g g':Nat->Nat):∀(l:List Nat),(∀x∈l,g' x<=g x)->(l.map g').sum<=(l.map g).sum/\((∃x∈l,g' x<g x)->(l.map g').sum<(l.map g).sum)
 | [],_=>⟨Nat.le_refl _,fun⟨x,hx,_⟩=>by simp at hx⟩
 |a::l,h=>by
  obtain⟨h1,h2⟩:=sum_le g g' l (fun x hx=>h x (by simp[hx]))
  have h3:=h a (by simp)
  simp only[List.map_cons,List.sum_cons]
  refine⟨by omega,fun⟨x,hx,hlt⟩=>?_⟩
  rcases List.mem_cons.1 hx with rfl|hx
  ·omega
  ·have:=h2 ⟨x,hx,hlt⟩;omega
theorem kO (hc:Ctx n ns preds f at_ E):∀(m:Nat) (D:List Int),meas at_ ns D<=m->RI n ns at_ E D->∃k D',ip preds f ns k D D'/\RI n ns at_ E D'/\ow ns at_ E n ns D' D':=by
 intro m
 induction m using Nat.strongRecOn with
 |_ m IH=>
  intro D hm h
  obtain⟨D',ch,c1,c2,c3,c4,c5,c6,c7⟩:=nh hc ns D false h.wf (fun v hv=>hv) hc.sorted (by
   intro x hx hm
   rcases List.mem_cons.1 hx with rfl|hx
   ·exact⟨h.wf.set0,fun v hv=>by rw[hc.z];exact hc.pos v hv⟩
   ·exact absurd hx hm)
  obtain⟨hri,hsub⟩:=kT hc h c2 c5 c4
  cases ch with
  |false=>
   obtain⟨_,rfl⟩:=c6 rfl
   exact⟨1,D',⟨D',false,c1,.inl ⟨rfl,rfl⟩⟩,hri,c4⟩
  |true=>
   have hne:D'≠D:=by rcases c7 rfl with h1|h1;simp at h1;exact h1
   have hval:∀x∈ns,∃y y':Nat,D[x]? =some (y:Int)/\D'[x]? =some (y':Int)/\(y'=y∨at_ y'<at_ y):=by
    intro x hx
    have hxo:x∈0::ns:=by simp[hx]
    obtain⟨y,hy⟩:=h.all x hxo
    obtain⟨y',hy'⟩:=c5 x hxo
    refine⟨y,y',hy,hy',?_⟩
    have h1:=hsub x hxo y' (.step hy' (.refl _))
    have h2:=(c2.up x y' (ns_ne0 hc hx) hy').1
    have h5:=(h.wf.up x y (ns_ne0 hc hx) hy).2
    cases h1 with
    |refl _=>omega
    |@step _ w _ h3 h4=>
     rw[hy] at h3
     have:y=w:=by have:=Option.some.inj h3;omega
     subst this
     exact(h.wf.anc_le h4 h5).1
   have hget:∀(B:List Int) (x y:Nat),B[x]? =some (y:Int)->(B.getD x 0).toNat=y:=fun B x y hy=>by rw[List.getD_eq_getElem?_getD,hy];simp
   have hlt:meas at_ ns D'<meas at_ ns D:=by
    refine(sum_le _ _ ns (fun x hx=>?_)).2 ?_
    ·obtain⟨y,y',h1,h2,h3⟩:=hval x hx
     rw[hget D x y h1,hget D' x y' h2]
     rcases h3 with rfl|h3<;>omega
    ·by_cases hex:∃x∈ns,D'[x]?≠D[x]?
     ·obtain⟨x,hx,hxe⟩:=hex
      obtain⟨y,y',h1,h2,h3⟩:=hval x hx
      refine⟨x,hx,?_⟩
      rw[hget D x y h1,hget D' x y' h2]
      rcases h3 with rfl|h3
      ·exact absurd (h2.trans h1.symm) hxe
      ·exact h3
     ·refine absurd (List.ext_getElem? fun i=>?_) hne
      by_cases hi:i∈ns
      ·by_cases he:D'[i]? =D[i]?
       ·exact he
       ·exact absurd ⟨i,hi,he⟩ hex
      ·exact c3 i hi
   obtain⟨k,D2,r1,r2,r3⟩:=IH (meas at_ ns D') (by omega) D' (Nat.le_refl _) hri
   exact⟨k+1,D2,⟨D',true,c1,.inr ⟨rfl,r1⟩⟩,r2,r3⟩
theorem chk (hc:Ctx n ns preds f at_ E):∃k D,ip preds f ns k ((0:Int)::List.replicate (n-1) (-1)) D/\WF n ns at_ D/\(∀x∈0::ns,yj D x)/\∀x∈0::ns,∀z,Anc D x z↔Dom E z x:=by
 have hn:0<n:=hc.lt 0 (by simp)
 have h0:WF n ns at_ ((0:Int)::List.replicate (n-1) (-1)):=by
  have hD0:∀(y:Nat) (w:Int),y≠0->((0:Int)::List.replicate (n-1) (-1))[y]? =some w->w=-1:=by
   intro y w hy
   cases y with
   |zero=>exact absurd rfl hy
   |succ y=>
    rw[List.getElem?_cons_succ,List.getElem?_replicate]
    split
    ·intro e;exact(Option.some.inj e).symm
    ·simp
  refine⟨by simp;omega,rfl,fun x y hx hy=>?_,fun x v hv=>?_,fun x hx=>?_⟩
  ·have:=hD0 x _ hx hy;omega
  ·by_cases e:x=0
   ·subst e;exact .inr ⟨0,by simpa using hv.symm⟩
   ·exact .inl (hD0 x v e hv)
  ·by_cases e:x=0
   ·simp[e]
   ·obtain⟨y,hy⟩:=hx;have:=hD0 x _ e hy;omega
 obtain⟨D',ch,c1,c2,c3,c4,c5,c6,c7⟩:=nh hc ns _ false h0 (fun v hv=>hv) hc.sorted (by
  intro x hx hm
  rcases List.mem_cons.1 hx with rfl|hx
  ·exact⟨h0.set0,fun v hv=>by rw[hc.z];exact hc.pos v hv⟩
  ·exact absurd hx hm)
 have h1:=nr hc c2 c5 c4
 have hfin:∃k D,ip preds f ns k ((0:Int)::List.replicate (n-1) (-1)) D/\RI n ns at_ E D/\ow ns at_ E n ns D D:=by
  cases ch with
  |false=>
   obtain⟨_,rfl⟩:=c6 rfl
   exact⟨1,_,⟨_,false,c1,.inl ⟨rfl,rfl⟩⟩,h1,c4⟩
  |true=>
   obtain⟨k,D,r1,r2,r3⟩:=kO hc _ D' (Nat.le_refl _) h1
   exact⟨k+1,D,⟨D',true,c1,.inr ⟨rfl,r1⟩⟩,r2,r3⟩
 obtain⟨k,D,r1,r2,r3⟩:=hfin
 refine⟨k,D,r1,r2.wf,r2.all,fun x hx z=>⟨fun ha=>?_,r2.S x hx z⟩⟩
 have key:∀ {y:Nat},Walk E (·≠z) 0 y->y∈0::ns/\¬Anc D y z:=by
  intro y hw
  induction hw with
  |refl h=>exact⟨by simp,fun ha=>h (r2.wf.anc0 ha).symm⟩
  |@snoc b c _ h2 h3 ih=>
   have hco:=(hc.eo _ _ h2).2
   refine⟨hco,fun ha=>?_⟩
   rcases List.mem_cons.1 hco with rfl|hcn
   ·exact h3 (r2.wf.anc0 ha).symm
   ·obtain⟨E1,dn,e1,e2,e3,e4,e5,e6,e7⟩:=r3 c hcn
    have heq:∀y∈0::ns,E1[y]? =D[y]?:=fun y hy=>by
     by_cases hl:at_ y<at_ c
     ·exact e2 y hy hl
     ·exact e3 y (by omega)
    have hbo:=(hc.eo _ _ h2).1
    have hbs:yj E1 b:=by obtain⟨y,hy⟩:=r2.all b hbo;exact⟨y,by rw[heq b hbo];exact hy⟩
    have h5:Anc D dn z:=by
     cases ha with
     |refl _=>exact absurd rfl h3
     |@step _ w _ h6 h7=>
      rw[e4] at h6
      have:dn=w:=by have:=Option.some.inj h6;omega
      subst this;exact h7
    have h8:=(e7 z).1 (tr r2.wf h5 (r2.all dn (e1.sub dn e6)) (fun y hy _=>(heq y hy).symm)) b h2 hbs
    exact ih.2 (tr e1 h8 hbs (fun y hy _=>heq y hy))
 exact fun hw=>(key hw).2 ha
end
def GE (g:List (List Nat))(u s:Nat):Prop:=s∈succ g u
def RE (g:List (List Nat))(u s:Nat):Prop:=Reach (GE g) u/\s∈succ g u
def wh (ord:List Nat)(x:Nat):Nat:=(atF ord ord.length (x:Int)).toNat
theorem nz {ord:List Nat}(hn:ord.Nodup){i x:Nat}(hi:ord[i]? =some x):∀(m:Nat),i<m->m<=ord.length->atF ord m (x:Int)=(i:Int)
 |0,h,_=>by omega
 |m+1,h,hm=>by
  unfold atF
  have hil:=(List.getElem?_eq_some_iff.1 hi).1
  have hx:=(List.getElem?_eq_some_iff.1 hi).2
  have e:ord.getD m 0=ord[m]'(by omega):=by rw[List.getD_eq_getElem?_getD,List.getElem?_eq_getElem (by omega)];rfl
  rw[e]
  by_cases hmi:m=i
  ·subst hmi;rw[hx,if_pos rfl]
  ·rw[if_neg (by
    intro he
    have he':x=ord[m]'(by omega):=by omega
    exact hmi ((List.getElem_inj (h₀:=by omega) (h₁:=hil) hn).1 (he'.symm.trans hx.symm)))]
   exact nz hn hi m (by omega) (by omega)
theorem vq {ord:List Nat}(hn:ord.Nodup){i x:Nat}(hi:ord[i]? =some x):wh ord x=i:=by
 unfold wh
 rw[nz hn hi _ (List.getElem?_eq_some_iff.1 hi).1 (Nat.le_refl _)]
 simp
theorem posOf_f {ord:List Nat}(hn:ord.Nodup){x:Nat}(hx:x∈ord):atF ord ord.length (x:Int)=(wh ord x:Int):=by
 obtain⟨i,hi⟩:=List.getElem?_of_mem hx
 rw[vq hn hi,nz hn hi _ (List.getElem?_eq_some_iff.1 hi).1 (Nat.le_refl _)]
theorem mr {ord:List Nat}(hn:ord.Nodup):ord.Pairwise (fun a b=>wh ord a<wh ord b):=by
 rw[List.pairwise_iff_getElem]
 intro i j hi hj hij
 rw[vq hn (List.getElem?_eq_getElem hi),vq hn (List.getElem?_eq_getElem hj)]
 exact hij
theorem jR {ord:List Nat}(hn:ord.Nodup){a b:Nat}(h: [a,b].Sublist ord):wh ord a<wh ord b:=by
 have:=(mr hn).sublist h
 simpa using this
theorem ou {ord:List Nat}(hn:ord.Nodup){a b:Nat}(ha:a∈ord)(hb:b∈ord)(h:wh ord a=wh ord b):a=b:=by
 obtain⟨i,hi⟩:=List.getElem?_of_mem ha
 obtain⟨j,hj⟩:=List.getElem?_of_mem hb
 rw[vq hn hi,vq hn hj] at h
 subst h
 rw[hi] at hj
 exact Option.some.inj hj
theorem nw {P:List (List Nat)}{n s v:Nat}(hv:v<P.length)(p:Nat):p∈(xS n P s).getD v []↔p∈P.getD v []∨(p=n/\v=s):=by
 unfold xS
 rw[List.getD_eq_getElem?_getD,List.getElem?_set]
 by_cases e:s=v
 ·subst e
  rw[if_pos rfl,if_pos hv]
  simp
 ·rw[if_neg e,<-List.getD_eq_getElem?_getD]
  simp[Ne.symm e]
theorem tG (n:Nat)(P:List (List Nat))(s:Nat):(xS n P s).length=P.length:=by simp[xS]
theorem ml (n:Nat):∀(l:List Nat) (P:List (List Nat)) (v:Nat),v<P.length->∀p,p∈(l.foldl (xS n) P).getD v []↔p∈P.getD v []∨(p=n/\v∈l)
 | [],P,v,_,p=>by simp
 |s::l,P,v,hv,p=>by
  rw[List.foldl_cons,ml n l _ v (by rw[tG];exact hv),nw hv]
  simp only[List.mem_cons]
  constructor
  ·rintro((h|⟨h1,h2⟩)|⟨h1,h2⟩)
   ·exact .inl h
   ·exact .inr ⟨h1,.inl h2⟩
   ·exact .inr ⟨h1,.inr h2⟩
  ·rintro(h|⟨h1,h2|h2⟩)
   ·exact .inl (.inl h)
   ·exact .inl (.inr ⟨h1,h2⟩)
   ·exact .inr ⟨h1,h2⟩
theorem t9 (n:Nat):∀(l:List Nat) (P:List (List Nat)),(l.foldl (xS n) P).length=P.length
 | [],_=>rfl
 |s::l,P=>by rw[List.foldl_cons,t9 n l,tG]
theorem rT (g:List (List Nat)):∀(ord:List Nat) (P:List (List Nat)) (v:Nat),v<P.length->∀p,p∈(ord.foldl (yh g) P).getD v []↔p∈P.getD v []∨(p∈ord/\v∈succ g p)
 | [],P,v,_,p=>by simp
 |n::ord,P,v,hv,p=>by
  rw[List.foldl_cons,rT g ord _ v (by unfold yh;rw[t9];exact hv)]
  unfold yh
  rw[ml n _ P v hv]
  simp only[List.mem_cons]
  constructor
  ·rintro((h|⟨h1,h2⟩)|⟨h1,h2⟩)
   ·exact .inl h
   ·subst h1;exact .inr ⟨.inl rfl,h2⟩
   ·exact .inr ⟨.inr h1,h2⟩
  ·rintro(h|⟨h1|h1,h2⟩)
   ·exact .inl (.inl h)
   ·subst h1;exact .inl (.inr ⟨rfl,h2⟩)
   ·exact .inr ⟨h1,h2⟩
theorem mj (g:List (List Nat))(ord:List Nat):(un g ord).length=g.length:=by
 have:∀(ord:List Nat) (P:List (List Nat)),(ord.foldl (yh g) P).length=P.length:=by
  intro ord
  induction ord with
  |nil=>intros;rfl
  |cons a l ih=>intro P;rw[List.foldl_cons,ih];unfold yh;rw[t9]
 unfold un;rw[this];simp
theorem lV {g:List (List Nat)}{ord:List Nat}{v:Nat}{pr:List Nat}(h:(un g ord)[v]? =some pr)(p:Nat):p∈pr↔p∈ord/\v∈succ g p:=by
 have hv:=(List.getElem?_eq_some_iff.1 h).1
 rw[mj] at hv
 have:=rT g ord (List.replicate g.length []) v (by simpa using hv) p
 have e:(List.foldl (yh g) (List.replicate g.length []) ord).getD v []=pr:=by
  rw[List.getD_eq_getElem?_getD];unfold un at h;rw[h];rfl
 rw[e] at this
 rw[this]
 simp[List.getD_eq_getElem?_getD,List.getElem?_replicate]
 intro h1
 split at h1<;>simp at h1
structure OrdF (g:List (List Nat)) (ns:List Nat):Prop where
 is:tV g (0::ns)
 eq:vD g=0::ns
 nodup:(0::ns).Nodup
 lt:∀x∈0::ns,x<g.length
 mem:∀x,x∈0::ns↔Reach (GE g) x
 fwd:∀x∈ns,∃p,RE g p x/\wh (0::ns) p<wh (0::ns) x
 back:∀x s,RE g x s->wh (0::ns) x<wh (0::ns) s∨Desc g (ul g) s x
 sub:∀a b,[a,b].Sublist (ul g)->wh (0::ns) b<wh (0::ns) a
theorem ordF {g:List (List Nat)}(hv:zw g):∃ns,OrdF g ns:=by
 obtain⟨L,h1,h2,h3,k,hk⟩:=post_ok hv
 have he:vD g=0::L.reverse:=by unfold vD;rw[h1];simp
 have hr:(0::L.reverse).reverse=ul g:=by rw[h1];simp
 have hnd:(0::L.reverse).Nodup:=by rw[<-he];unfold vD;exact List.pairwise_reverse.2 (h2.imp (fun h=>Ne.symm h))
 have hmm:∀x,x∈0::L.reverse↔x∈ul g:=fun x=>by rw[<-hr];exact List.mem_reverse.symm
 have hsub:∀a b,[a,b].Sublist (ul g)->wh (0::L.reverse) b<wh (0::L.reverse) a:=by
  intro a b hab
  refine jR hnd ?_
  have:=List.reverse_sublist.2 hab
  rw[<-he]
  simpa[vD] using this
 have hdr:∀ {a x:Nat},Desc g (ul g) a x->Walk (GE g) (fun _=>True) 0 a->Walk (GE g) (fun _=>True) 0 x:=by
  intro a x hd
  induction hd with
  |refl a=>exact id
  |step h4 _ _ ih=>exact fun hw=>ih (.snoc hw h4 trivial)
 have hmem:∀x,x∈0::L.reverse↔Reach (GE g) x:=by
  intro x
  rw[hmm]
  constructor
  ·exact fun hx=>hdr (h3 x hx).2.1 (.refl trivial)
  ·intro hw
   unfold Reach at hw
   induction hw with
   |refl _=>rw[h1];simp
   |snoc _ h4 _ ih=>exact((h3 _ ih).2.2 _ h4).1
 refine⟨L.reverse,⟨⟨k,by rw[hr];exact hk⟩,he,hnd,fun x hx=>(h3 x ((hmm x).1 hx)).1,hmem,fun x hx=>?_,fun x s hxs=>?_,hsub⟩⟩
 ·have hx0:x≠0:=by rintro rfl;exact(List.nodup_cons.1 hnd).1 hx
  rcases(h3 x ((hmm x).1 (by simp[hx]))).2.1.last with h4|⟨p,h4,h5,h6⟩
  ·exact absurd h4.symm hx0
  ·exact⟨p,⟨hdr h4 (.refl trivial),h5⟩,hsub x p h6⟩
 ·rcases((h3 x ((hmm x).1 ((hmem x).2 hxs.1))).2.2 s hxs.2).2 with h4|h4
  ·exact .inl (hsub s x h4)
  ·exact .inr h4
theorem OrdF.ctx {g:List (List Nat)}{ns:List Nat}(h:OrdF g ns):Ctx g.length ns (un g (0::ns)) (atF (0::ns) (ns.length+1)) (wh (0::ns)) (RE g):=by
 have h0:wh (0::ns) 0=0:=vq h.nodup (i:=0) rfl
 have hpw:=List.pairwise_cons.1 (mr h.nodup)
 refine⟨h.lt,h0,hpw.2,fun x hx=>by have:=hpw.1 x hx;omega,fun x hx y hy=>ou h.nodup hx hy,fun x hx=>posOf_f h.nodup hx,mj _ _,fun v pr hpr p=>?_,fun u s hus=>⟨(h.mem u).2 hus.1,(h.mem s).2 (.snoc hus.1 hus.2 trivial)⟩,h.fwd⟩
 rw[lV hpr,h.mem];rfl
structure DomF (g:List (List Nat)) (ns:List Nat) (D:List Int):Prop where
 of:kf g ns D
 wf:WF g.length ns (wh (0::ns)) D
 all:∀x∈0::ns,yj D x
 anc:∀x∈0::ns,∀z,Anc D x z↔Dom (GE g) z x
theorem re_dom {g:List (List Nat)}{z x:Nat}:Dom (RE g) z x↔Dom (GE g) z x:=by
 have h1:∀ {y:Nat},Walk (GE g) (·≠z) 0 y->Walk (RE g) (·≠z) 0 y:=by
  intro y hw
  induction hw with
  |refl h=>exact .refl h
  |snoc h1 h2 h3 ih=>exact .snoc ih ⟨h1.imp (fun _ _=>trivial),h2⟩ h3
 exact⟨fun h hw=>h (h1 hw),fun h hw=>h (hw.mono (fun _ _ _ _ h=>h.2) (fun _ h=>h)).2⟩
theorem OrdF.dom {g:List (List Nat)}{ns:List Nat}(h:OrdF g ns):∃D,DomF g ns D:=by
 obtain⟨k,D,h1,h2,h3,h4⟩:=chk h.ctx
 exact⟨D,⟨k,h1⟩,h2,h3,fun x hx z=>(h4 x hx z).trans re_dom⟩
theorem sget {l:List Bool}{x:Nat}(h:x<l.length):l[x]? =some true∨l[x]? =some false:=by
 rw[List.getElem?_eq_getElem h];cases l[x]<;>simp
theorem rL (out:Int):∀(l:List Nat) (st:List Bool×List Nat),(∀s∈l,s<st.1.length)->
 (l.foldl (ua out) st).1.length=st.1.length/\(∀x:Nat,(l.foldl (ua out) st).1[x]? =some true↔st.1[x]? =some true∨(x∈l/\(x:Int)≠out))/\
 (∀y:Nat,y∈(l.foldl (ua out) st).2↔y∈st.2∨(y∈l/\(y:Int)≠out/\st.1[y]? =some false))/\(l.foldl (ua out) st).2.length+wa (l.foldl (ua out) st).1=st.2.length+wa st.1
 | [],st,_=>⟨rfl,fun x=>by simp,fun y=>by simp,rfl⟩
 |s::l,st,hl=>by
  have hsl:=hl s (by simp)
  rw[List.foldl_cons]
  by_cases h:(s:Int)≠out/\st.1[s]? =some false
  ·have e:ua out st s=(st.1.set s true,st.2++ [s]):=by unfold ua;rw[if_pos h]
   rw[e]
   obtain⟨h1,h2,h3,h4⟩:=rL out l (st.1.set s true,st.2++ [s]) (fun t ht=>by simpa using hl t (by simp[ht]))
   dsimp only at h1 h2 h3 h4
   have hw:=vm h.2
   refine⟨by rw[h1];simp,fun x=>?_,fun y=>?_,by rw[h4];simp;omega⟩
   ·rw[h2,List.getElem?_set]
    by_cases hx:s=x
    ·subst hx;rw[if_pos rfl,if_pos hsl];simp[h.1]
    ·rw[if_neg hx]
     constructor
     ·rintro(h5|⟨h5,h6⟩)
      ·exact .inl h5
      ·exact .inr ⟨by simp[h5],h6⟩
     ·rintro(h5|⟨h5,h6⟩)
      ·exact .inl h5
      ·rcases List.mem_cons.1 h5 with h5|h5
       ·exact absurd h5.symm hx
       ·exact .inr ⟨h5,h6⟩
   ·rw[h3,List.mem_append,List.mem_singleton,List.getElem?_set]
    by_cases hy:s=y
    ·subst hy;rw[if_pos rfl,if_pos hsl];simp[h.1,h.2]
    ·rw[if_neg hy]
     constructor
     ·rintro((h5|h5)|⟨h5,h6⟩)
      ·exact .inl h5
      ·exact absurd h5.symm hy
      ·exact .inr ⟨by simp[h5],h6⟩
     ·rintro(h5|⟨h5,h6⟩)
      ·exact .inl (.inl h5)
      ·rcases List.mem_cons.1 h5 with h5|h5
       ·exact absurd h5.symm hy
       ·exact .inr ⟨h5,h6⟩
  ·have e:ua out st s=st:=by unfold ua;rw[if_neg h]
   rw[e]
   obtain⟨h1,h2,h3,h4⟩:=rL out l st (fun t ht=>hl t (by simp[ht]))
   have hs:(s:Int)≠out->st.1[s]? =some true:=fun ho=>(sget hsl).resolve_right (fun hf=>h ⟨ho,hf⟩)
   refine⟨h1,fun x=>?_,fun y=>?_,h4⟩
   ·rw[h2]
    constructor
    ·rintro(h5|⟨h5,h6⟩)
     ·exact .inl h5
     ·exact .inr ⟨by simp[h5],h6⟩
    ·rintro(h5|⟨h5,h6⟩)
     ·exact .inl h5
     ·rcases List.mem_cons.1 h5 with rfl|h5
      ·exact .inl (hs h6)
      ·exact .inr ⟨h5,h6⟩
   ·rw[h3]
    constructor
    ·rintro(h5|⟨h5,h6⟩)
     ·exact .inl h5
     ·exact .inr ⟨by simp[h5],h6⟩
    ·rintro(h5|⟨h5,h6,h7⟩)
     ·exact .inl h5
     ·rcases List.mem_cons.1 h5 with rfl|h5
      ·exact absurd ⟨h6,h7⟩ h
      ·exact .inr ⟨h5,h6,h7⟩
def sO (g:List (List Nat))(out:Int):Nat->List Bool->List Nat->List Bool
 |0,seen,_=>seen
 |f+1,seen,work=>match work.getLast? with
  |none=>seen
  |some n=>sO g out f ((succ g n).foldl (ua out) (seen,work.dropLast)).1 ((succ g n).foldl (ua out) (seen,work.dropLast)).2
def ie (g:List (List Nat))(fr:Nat)(out:Int):List Bool:=
 if(fr:Int)=out then List.replicate g.length false else sO g out (g.length+1) ((List.replicate g.length false).set fr true) [fr]
theorem pK {g:List (List Nat)}(hv:zw g)(out:Int):∀(f:Nat) (seen:List Bool) (work:List Nat),seen.length=g.length->work.length+wa seen<=f->∃k,i7 g out k seen work (sO g out f seen work)
 |0,seen,work,_,h=>⟨0,List.eq_nil_of_length_eq_zero (by omega),rfl⟩
 |f+1,seen,work,hs,h=>by
  rcases List.eq_nil_or_concat work with rfl|⟨st,n,rfl⟩
  ·exact⟨0,rfl,rfl⟩
  ·obtain⟨h1,_,_,h4⟩:=rL out (succ g n) (seen,st) (fun s hm=>by rw[hs];exact s9 hv hm)
   simp only[List.concat_eq_append,List.length_append,List.length_singleton] at h h1 h4
   obtain⟨k,hk⟩:=pK hv out f ((succ g n).foldl (ua out) (seen,st)).1 ((succ g n).foldl (ua out) (seen,st)).2 (h1.trans hs) (by omega)
   refine⟨k+1,st,n,by simp,?_⟩
   have e:sO g out (f+1) seen (st.concat n)=sO g out f ((succ g n).foldl (ua out) (seen,st)).1 ((succ g n).foldl (ua out) (seen,st)).2:=by
    simp[sO]
   rw[e]
   exact hk
theorem fromL_of {g:List (List Nat)}(hv:zw g)(fr:Nat)(hfr:fr<g.length)(out:Int):iK g fr out (ie g fr out):=by
 unfold iK ie
 by_cases h:(fr:Int)=out
 ·rw[if_pos h];exact .inl ⟨h,rfl⟩
 ·rw[if_neg h]
  have hw:=vm (seen:=List.replicate g.length false) (n:=fr) (by simp[hfr])
  have h0:wa (List.replicate g.length false)=g.length:=by simp[wa]
  exact .inr ⟨h,pK hv out _ _ _ (by simp) (by simp only[List.length_singleton];omega)⟩
theorem pQ {g:List (List Nat)}(hv:zw g)(out:Int)(fr:Nat):∀(k:Nat) (seen:List Bool) (work:List Nat) (F:List Bool),i7 g out k seen work F->seen.length=g.length->
 (∀x∈work,seen[x]? =some true)->(∀x:Nat,seen[x]? =some true->Walk (GE g) (fun y=>(y:Int)≠out) fr x)->(∀x s:Nat,seen[x]? =some true->x ∉ work->s∈succ g x->(s:Int)≠out->seen[s]? =some true)->seen[fr]? =some true->
 F.length=g.length/\∀x:Nat,F[x]? =some true↔Walk (GE g) (fun y=>(y:Int)≠out) fr x
 |0,seen,work,F,h,hlen,h1,h2,h3,h4=>by
  obtain⟨rfl,rfl⟩:=h
  refine⟨hlen,fun x=>⟨h2 x,fun hw=>?_⟩⟩
  induction hw with
  |refl _=>exact h4
  |snoc _ h5 h6 ih=>exact h3 _ _ ih (by simp) h5 h6
 |k+1,seen,work,F,h,hlen,h1,h2,h3,h4=>by
  obtain⟨st,n,rfl,h⟩:=h
  obtain⟨p1,p2,p3,_⟩:=rL out (succ g n) (seen,st) (fun s hm=>by rw[hlen];exact s9 hv hm)
  dsimp only at p1 p2 p3
  refine pQ hv out fr k _ _ F h (p1.trans hlen) ?_ ?_ ?_ ((p2 fr).2 (.inl h4))
  ·intro x hx
   rcases(p3 x).1 hx with h5|⟨h5,h6,_⟩
   ·exact(p2 x).2 (.inl (h1 x (by simp[h5])))
   ·exact(p2 x).2 (.inr ⟨h5,h6⟩)
  ·intro x hx
   rcases(p2 x).1 hx with h5|⟨h5,h6⟩
   ·exact h2 x h5
   ·exact .snoc (h2 n (h1 n (by simp))) h5 h6
  ·intro x s hx hxw hs ho
   rcases(p2 x).1 hx with h5|⟨h5,h6⟩
   ·by_cases hm:x∈st++ [n]
    ·rcases List.mem_append.1 hm with hm|hm
     ·exact absurd ((p3 x).2 (.inl hm)) hxw
     ·simp at hm;subst hm
      exact(p2 s).2 (.inr ⟨hs,ho⟩)
    ·exact(p2 s).2 (.inl (h3 x s h5 hm hs ho))
   ·rcases sget (l:=seen) (x:=x) (by rw[hlen];exact s9 hv h5) with h7|h7
    ·by_cases hm:x∈st++ [n]
     ·rcases List.mem_append.1 hm with hm|hm
      ·exact absurd ((p3 x).2 (.inl hm)) hxw
      ·simp at hm;subst hm
       exact(p2 s).2 (.inr ⟨hs,ho⟩)
     ·exact(p2 s).2 (.inl (h3 x s h7 hm hs ho))
    ·exact absurd ((p3 x).2 (.inr ⟨h5,h6,h7⟩)) hxw
theorem nR {g:List (List Nat)}(hv:zw g){fr:Nat}(hfr:fr<g.length){out:Int}{F:List Bool}(h:iK g fr out F):
 F.length=g.length/\∀x:Nat,F[x]? =some true↔Walk (GE g) (fun y=>(y:Int)≠out) fr x:=by
 rcases h with⟨h1,rfl⟩|⟨h1,k,hk⟩
 ·refine⟨by simp,fun x=>⟨fun h2=>?_,fun h2=>absurd h1 h2.first⟩⟩
  rw[List.getElem?_replicate] at h2
  split at h2<;>simp at h2
 ·refine pQ hv out fr k _ _ F hk (by simp) (fun x hx=>by simp at hx;subst hx;simp[hfr]) (fun x hx=>?_) (fun x s hx hxw=>?_) (by simp[hfr])
  ·by_cases e:fr=x
   ·subst e;exact .refl h1
   ·rw[List.getElem?_set_ne e,List.getElem?_replicate] at hx
    split at hx<;>simp at hx
  ·have e:fr≠x:=fun e=>hxw (by simp[e])
   rw[List.getElem?_set_ne e,List.getElem?_replicate] at hx
   split at hx<;>simp at hx
def nc (g:List (List Nat))(fr:Nat)(out:Int)(x:Nat):Bool:=(ie g fr out).getD x false
theorem nG {g:List (List Nat)}(hv:zw g){fr:Nat}(hfr:fr<g.length)(out:Int)(x:Nat):nc g fr out x=true↔Walk (GE g) (fun y=>(y:Int)≠out) fr x:=by
 rw[<-(nR hv hfr (fromL_of hv fr hfr out)).2]
 unfold nc
 rw[List.getD_eq_getElem?_getD]
 cases (ie g fr out)[x]? with
 |none=>simp
 |some b=>cases b<;>simp
def wE (g:List (List Nat))(d x:Nat):Bool:=nc g 0 (-1) d && nc g 0 (-1) x && (decide (d=x)||!nc g 0 d x)
theorem mP {g:List (List Nat)}(hv:zw g)(x:Nat):nc g 0 (-1) x=true↔Reach (GE g) x:=by
 rw[nG hv hv.1]
 exact⟨fun h=>h.imp (fun _ _=>trivial),fun h=>h.imp (fun a _=>by omega)⟩
theorem yO {g:List (List Nat)}(hv:zw g)(d x:Nat):wE g d x=true↔Reach (GE g) d/\Reach (GE g) x/\Dom (GE g) d x:=by
 unfold wE
 rw[Bool.and_eq_true,Bool.and_eq_true,mP hv,mP hv,Bool.or_eq_true,decide_eq_true_eq,Bool.not_eq_true']
 have h1:nc g 0 (d:Int) x=false↔Dom (GE g) d x:=by
  unfold Dom
  rw[<-Bool.not_eq_true,nG hv hv.1]
  exact not_congr ⟨fun h=>h.imp (fun a h=>by omega),fun h=>h.imp (fun a h=>by omega)⟩
 rw[h1]
 constructor
 ·rintro⟨⟨h2,h3⟩,rfl|h4⟩
  ·exact⟨h2,h3,rF _ _⟩
  ·exact⟨h2,h3,h4⟩
 ·exact fun⟨h2,h3,h4⟩=>⟨⟨h2,h3⟩,.inr h4⟩
def oP (g:List (List Nat))(x:Nat)(best:Int)(d:Nat):Int:=if d≠x/\wE g d x=true/\(best<0∨wE g best.toNat d=true) then(d:Int) else best
def pP (g:List (List Nat))(x:Nat):Int:=(List.range g.length).foldl (oP g x) (-1)
def wQ (g:List (List Nat)):List Int:=(List.range g.length).map (pP g)
theorem anc_lin {D:List Int}{x a b:Nat}(ha:Anc D x a)(hb:Anc D x b):Anc D a b∨Anc D b a:=by
 induction ha with
 |refl _=>exact .inl hb
 |@step x y a h1 h2 ih=>
  cases hb with
  |refl _=>exact .inr (.step h1 h2)
  |@step _ w _ h3 h4=>
   rw[h1] at h3
   have:y=w:=by have:=Option.some.inj h3;omega
   subst this
   exact ih h4
theorem DomF.dom_lin {g:List (List Nat)}{ns:List Nat}{D:List Int}(hD:DomF g ns D){x a b:Nat}(hx:x∈0::ns)(ha:Dom (GE g) a x)(hb:Dom (GE g) b x):Dom (GE g) a b∨Dom (GE g) b a:=by
 have ha':=(hD.anc x hx a).2 ha
 have hb':=(hD.anc x hx b).2 hb
 have hao:=hD.wf.sub a (hD.wf.anc_le ha' (hD.all x hx)).2
 have hbo:=hD.wf.sub b (hD.wf.anc_le hb' (hD.all x hx)).2
 rcases anc_lin ha' hb' with h|h
 ·exact .inr ((hD.anc a hao b).1 h)
 ·exact .inl ((hD.anc b hbo a).1 h)
theorem DomF.dom_mem {g:List (List Nat)}{ns:List Nat}{D:List Int}(hD:DomF g ns D){x a:Nat}(hx:x∈0::ns)(ha:Dom (GE g) a x):a∈0::ns/\wh (0::ns) a<=wh (0::ns) x:=by
 have ha':=(hD.anc x hx a).2 ha
 exact⟨hD.wf.sub a (hD.wf.anc_le ha' (hD.all x hx)).2,hD.wf.le ha' (hD.all x hx)⟩
theorem ri {g:List (List Nat)}(hv:zw g){ns:List Nat}{D:List Int}(hO:OrdF g ns)(hD:DomF g ns D)(x:Nat):∀(m:Nat),
 ((List.range m).foldl (oP g x) (-1)=-1/\∀d<m,¬(d≠x/\wE g d x=true))∨
 ∃b:Nat,(List.range m).foldl (oP g x) (-1)=(b:Int)/\b≠x/\wE g b x=true/\∀d<m,d≠x->wE g d x=true->Dom (GE g) d b
 |0=> .inl ⟨rfl,fun d hd=>by omega⟩
 |m+1=>by
  rw[List.range_succ,List.foldl_append,List.foldl_cons,List.foldl_nil]
  rcases ri hv hO hD x m with⟨h1,h2⟩|⟨b,h1,h2,h3,h4⟩
  ·rw[h1]
   by_cases hm:m≠x/\wE g m x=true
   ·refine .inr ⟨m,by unfold oP;rw[if_pos ⟨hm.1,hm.2,.inl (by omega)⟩],hm.1,hm.2,fun d hd hdx hdd=>?_⟩
    by_cases e:d=m
    ·subst e;exact rF _ _
    ·exact absurd ⟨hdx,hdd⟩ (h2 d (by omega))
   ·refine .inl ⟨by unfold oP;rw[if_neg (fun h=>hm ⟨h.1,h.2.1⟩)],fun d hd=>?_⟩
    by_cases e:d=m
    ·subst e;exact hm
    ·exact h2 d (by omega)
  ·rw[h1]
   have hb:=(yO hv b x).1 h3
   have hx:x∈0::ns:=(hO.mem x).2 hb.2.1
   by_cases hm:m≠x/\wE g m x=true
   ·have hm2:=(yO hv m x).1 hm.2
    by_cases hbm:wE g b m=true
    ·have hbm2:=(yO hv b m).1 hbm
     refine .inr ⟨m,by unfold oP;rw[if_pos ⟨hm.1,hm.2,.inr (by simpa using hbm)⟩],hm.1,hm.2,fun d hd hdx hdd=>?_⟩
     by_cases e:d=m
     ·subst e;exact rF _ _
     ·exact oZ (h4 d (by omega) hdx hdd) hbm2.2.2
    ·refine .inr ⟨b,by unfold oP;rw[if_neg (fun h=>by rcases h.2.2 with h|h;omega;exact hbm (by simpa using h))],h2,h3,fun d hd hdx hdd=>?_⟩
     by_cases e:d=m
     ·subst e
      rcases hD.dom_lin hx hb.2.2 hm2.2.2 with h|h
      ·exact absurd ((yO hv b d).2 ⟨hb.1,hm2.1,h⟩) hbm
      ·exact h
     ·exact h4 d (by omega) hdx hdd
   ·refine .inr ⟨b,by unfold oP;rw[if_neg (fun h=>hm ⟨h.1,h.2.1⟩)],h2,h3,fun d hd hdx hdd=>?_⟩
    by_cases e:d=m
    ·subst e;exact absurd ⟨hdx,hdd⟩ hm
    ·exact h4 d (by omega) hdx hdd
theorem idom_eq {g:List (List Nat)}(hv:zw g){ns:List Nat}{D:List Int}(hO:OrdF g ns)(hD:DomF g ns D):D.set 0 (-1)=wQ g:=by
 apply List.ext_getElem?
 intro x
 by_cases hx:x<g.length
 ·have hr:(wQ g)[x]? =some (pP g x):=by unfold wQ;rw[List.getElem?_map,List.getElem?_range hx];rfl
  rw[hr]
  have hdx:x<D.length:=by rw[hD.wf.len];exact hx
  have hf:=ri hv hO hD x g.length
  by_cases h0:x=0
  ·subst h0
   rw[List.getElem?_set_self hdx]
   rcases hf with⟨h1,_⟩|⟨b,h1,h2,h3,_⟩
   ·exact congrArg some h1.symm
   ·exact absurd (vI ((yO hv b 0).1 h3).2.2) h2
  ·rw[List.getElem?_set_ne (Ne.symm h0)]
   by_cases hxo:x∈0::ns
   ·obtain⟨y,hy⟩:=hD.all x hxo
    obtain⟨hlt,hys⟩:=hD.wf.up x y h0 hy
    have hyo:=hD.wf.sub y hys
    have hyx:y≠x:=fun e=>by rw[e] at hlt;omega
    have hyd:Dom (GE g) y x:=(hD.anc x hxo y).1 (.step hy (.refl _))
    have hyB:wE g y x=true:=(yO hv y x).2 ⟨(hO.mem y).1 hyo,(hO.mem x).1 hxo,hyd⟩
    rcases hf with⟨_,h2⟩|⟨b,h1,h2,h3,h4⟩
    ·exact absurd ⟨hyx,hyB⟩ (h2 y (hO.lt y hyo))
    ·have hb:=(yO hv b x).1 h3
     have h5:=h4 y (hO.lt y hyo) hyx hyB
     have h6:=(hD.anc x hxo b).2 hb.2.2
     have h7:Anc D y b:=by
      cases h6 with
      |refl _=>exact absurd rfl h2
      |@step _ w _ h8 h9=>
       rw[hy] at h8
       have:y=w:=by have:=Option.some.inj h8;omega
       subst this;exact h9
     have h8:=oT h5 ((hD.anc y hyo b).1 h7) ((hO.mem y).1 hyo)
     subst h8
     rw[hy];exact congrArg some h1.symm
   ·obtain⟨w,hw⟩:∃w,D[x]? =some w:=⟨_,List.getElem?_eq_getElem hdx⟩
    rw[hw]
    rcases hD.wf.neg x w hw with rfl|⟨y,rfl⟩
    ·rcases hf with⟨h1,_⟩|⟨b,h1,h2,h3,_⟩
     ·exact congrArg some h1.symm
     ·exact absurd ((hO.mem x).2 ((yO hv b x).1 h3).2.1) hxo
    ·exact absurd (hD.wf.sub x ⟨y,hw⟩) hxo
 ·rw[List.getElem?_eq_none (by simp[hD.wf.len];omega),List.getElem?_eq_none (by simp[wQ];omega)]
theorem re_lt {g:List (List Nat)}(hv:zw g){x:Nat}(h:Reach (GE g) x):x<g.length:=by
 unfold Reach at h
 cases h with
 |refl _=>exact hv.1
 |snoc _ h2 _=>exact s9 hv h2
def Ranked (E:Nat->Nat->Prop):Prop:=∃rank:Nat->Nat,∀u s,E u s->rank u<rank s∨Dom E s u
section
variable {E E':Nat->Nat->Prop} {p n:Nat}
end
def eget (ed:List (List Bool))(p s:Nat):Bool:=(ed.getD p []).getD s false
def Sq (size:Nat)(ed:List (List Bool)):Prop:=ed.length=size/\∀p,p<size->(ed.getD p []).length=size
def EE (size:Nat)(ed:List (List Bool))(u s:Nat):Prop:=u<size/\s<size/\eget ed u s=true
structure RS (g:List (List Nat)) (size:Nat) (al:List Bool) (ed:List (List Bool)) (left:Int):Prop where
 sq:Sq size ed
 len:al.length=size
 z:al.getD 0 false=true
 ends:∀u s,EE size ed u s->al.getD u false=true/\al.getD s false=true/\u≠s
 re:∀x,al.getD x false=true->Reach (EE size ed) x
 cnt:left=(al.count true:Int)
 q:Ranked (EE size ed)↔Ranked (RE g)
structure Same (g h:List (List Nat)):Prop where
 vg:zw g
 vh:zw h
 len:h.length=g.length
 mem:∀u s,s∈succ g u↔s∈succ h u
section
variable {g h:List (List Nat)}
end
section
variable {g ex:List (List Nat)}
structure Ext (g ex:List (List Nat)):Prop where
 vg:zw g
 vx:∀l∈ex,∀s∈l,s<g.length+ex.length
theorem pn (hv:zw g){d x:Nat}(h:wE g d x=true):d<g.length/\x<g.length:=by
 rw[yO hv] at h
 exact⟨re_lt hv h.1,re_lt hv h.2.1⟩
end
def IdomOf (g:List (List Nat))(x:Nat)(b:Int):Prop:=
 (b=-1/\∀d,d≠x->wE g d x=true->False)∨∃c:Nat,b=(c:Int)/\c≠x/\wE g c x=true/\∀d,d≠x->wE g d x=true->Dom (GE g) d c
theorem idomOf {g:List (List Nat)}(hv:zw g)(x:Nat):IdomOf g x (pP g x):=by
 obtain⟨ns,hO⟩:=ordF hv
 obtain⟨D,hD⟩:=hO.dom
 rcases ri hv hO hD x g.length with⟨h1,h2⟩|⟨b,h1,h2,h3,h4⟩
 ·exact .inl ⟨h1,fun d h3 h4=>h2 d (pn hv h4).1 ⟨h3,h4⟩⟩
 ·exact .inr ⟨b,h1,h2,h3,fun d h5 h6=>h4 d (pn hv h6).1 h5 h6⟩
structure Subd (g h:List (List Nat)) (u v:Nat):Prop where
 vg:zw g
 vh:zw h
 len:h.length=g.length+1
 hu:u<g.length
 euv:v∈succ g u
 ef:∀a,g.length∈succ h a↔a=u
 fe:∀b,b∈succ h g.length↔b=v
 old:∀a b,a≠g.length->b≠g.length->b∈succ h a->b∈succ g a
 new:∀a b,b∈succ g a->b∈succ h a∨(a=u/\b=v)
section
variable {g h:List (List Nat)} {u v:Nat}
end
structure Bij (n:Nat) (tl:List Nat):Prop where
 len:tl.length=n
 lt:∀(x a:Nat),tl[x]? =some a->a<n
 inj:∀(x y a:Nat),tl[x]? =some a->tl[y]? =some a->x=y
 surj:∀a,a<n->∃x:Nat,tl[x]? =some a
 zero:tl[0]? =some 0
structure Ren (g h:List (List Nat)) (to:Nat->Nat):Prop where
 vg:zw g
 len:h.length=g.length
 lt:∀x,x<g.length->to x<g.length
 inj:∀x y,x<g.length->y<g.length->to x=to y->x=y
 surj:∀a,a<g.length->∃x,x<g.length/\to x=a
 zero:to 0=0
 succ:∀u,u<g.length->succ h (to u)=(succ g u).map to
section
variable {g h:List (List Nat)} {to:Nat->Nat}
end
section
variable {g:List (List Nat)}
end
end Go.Proofs.Ytojclalkfhoooaa
