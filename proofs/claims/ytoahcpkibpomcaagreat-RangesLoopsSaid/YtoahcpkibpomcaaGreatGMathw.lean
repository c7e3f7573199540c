/- Part of a proof. -/
import Derived.Test.YtoahcpkibpomcaaGreatSpw
set_option linter.all false
namespace Go.Proofs.YtoahcpkibpomcaaGreat
variable {g:List (List Nat)}{P':Nat->Prop}{d fr i x:Nat}{c ns:List Nat}{D':List Int}
def succ (g:List (List Nat))(u:Nat):List Nat:=g.getD u []
def pB (g:List (List Int)):Bool:=g.all fun l=>l.all fun s=>decide (0<=s) && decide (s<(g.length:Int))
def zw (g:List (List Nat)):Prop:=0<g.length/\∀l∈g,∀s∈l,s<g.length
def PathN (g:List (List Nat))(P:Nat->Prop):Nat->Nat->Nat->Prop
 |0,a,b=>a=b/\P a
 |k+1,a,c=>∃b,PathN g P k a b/\c∈succ g b/\P c
def kV (g:List (List Nat)):Nat->List Bool->List (Nat×Nat)->List Nat->List Nat->Prop
 |0,_,stk,post,F=>stk=[]/\post=F
 |k+1,seen,stk,post,F=>∃st u j,stk=st++ [(u,j)]/\((j=(succ g u).length/\kV g k seen st (post++ [u]) F)∨
   (∃s,(succ g u)[j]? =some s/\seen[s]? =some true/\kV g k seen (st++ [(u,j+1)]) post F)∨
   (∃s,(succ g u)[j]? =some s/\seen[s]? =some false/\kV g k (seen.set s true) (st++ [(u,j+1)]++ [(s,0)]) post F))
def oy (g:List (List Nat)):Nat->List Bool×List Nat->Nat->List Bool×List Nat
 |0,st,_=>st
 |f+1,st,n=>
  let r:=(succ g n).foldl (fun st s=>if st.1.getD s true then st else oy g f st s) (st.1.set n true,st.2)
  (r.1,r.2++ [n])
def ae2 (g:List (List Nat)):List Nat:=(oy g g.length (List.replicate g.length false,[]) 0).2
def vD (g:List (List Nat)):List Nat:=(ae2 g).reverse
def tV (g:List (List Nat))(ord:List Nat):Prop:=∃k,kV g k ((List.replicate g.length false).set 0 true) [(0,0)] [] ord.reverse
def atF (ord:List Nat):Nat->Int->Int
 |0,_=>0
 |k+1,y=>if y=((ord.getD k 0:Nat):Int) then(k:Int) else atF ord k y
def xS (n:Nat)(P:List (List Nat))(s:Nat):List (List Nat):=P.set s (P.getD s []++ [n])
def yh (g:List (List Nat))(P:List (List Nat))(n:Nat):List (List Nat):=(succ g n).foldl (xS n) P
def un (g:List (List Nat))(ord:List Nat):List (List Nat):=ord.foldl (yh g) (List.replicate g.length [])
def UpN (idom:List Int)(f:Int->Int)(t:Int):Nat->Nat->Nat->Prop
 |0,a,a'=>¬t<f a/\a'=a
 |k+1,a,a'=>t<f a/\∃a1:Nat,a1<idom.length/\idom[a]? =some (a1:Int)/\UpN idom f t k a1 a'
def qZ (idom:List Int)(f:Int->Int):Nat->Nat->Nat->Nat->Prop
 |0,a,b,r=>a=b/\r=a
 |k+1,a,b,r=>a≠b/\∃j a',UpN idom f (f b) j a a'/\∃j' b',UpN idom f (f a') j' b b'/\qZ idom f k a' b' r
def mJ (idom:List Int)(f:Int->Int)(p:Nat)(d d1:Int):Prop:=
 ∃x,idom[p]? =some x/\((x<0/\d1=d)∨(¬x<0/\d<0/\d1=p)∨(¬x<0/\∃dn:Nat,d=dn/\dn<idom.length/\∃k r,qZ idom f k p dn r/\d1=(r:Int)))
def wi (idom:List Int)(f:Int->Int):List Nat->Int->Int->Prop
 | [],d,d'=>d'=d
 |p::ps,d,d'=>∃d1,mJ idom f p d d1/\wi idom f ps d1 d'
def OkD (idom:List Int)(d:Int):Prop:=d=-1∨∃dn:Nat,d=(dn:Int)/\dn<idom.length/\∃x,idom[dn]? =some x/\¬x<0
def TotR (idom:List Int)(f:Int->Int)(pr:List Nat):Prop:=∀p∈pr,p<idom.length/\∀d,OkD idom d->∃d1,OkD idom d1/\mJ idom f p d d1
def ny (preds:List (List Nat))(f:Int->Int):List Nat->List Int->Bool->List Int->Bool->Prop
 | [],idom,ch,idom',ch'=>idom'=idom/\ch'=ch
 |n::ns,idom,ch,idom',ch'=>∃pr d old,preds[n]? =some pr/\TotR idom f pr/\wi idom f pr (-1) d/\idom[n]? =some old/\((old=d/\ny preds f ns idom ch idom' ch')∨(old≠d/\ny preds f ns (idom.set n d) true idom' ch'))
def ip (preds:List (List Nat))(f:Int->Int)(ns:List Nat):Nat->List Int->List Int->Prop
 |0,_,_=>False
 |k+1,idom,idom'=>∃i1 ch,ny preds f ns idom false i1 ch/\((ch=false/\idom'=i1)∨(ch=true/\ip preds f ns k i1 idom'))
def eL (g:List (List Nat))(ns:List Nat)(idom:List Int):Prop:=∃k,ip (un g (0::ns)) (atF (0::ns) (ns.length+1)) ns k ((0:Int)::List.replicate (g.length-1) (-1)) idom
def aeY (out:Int)(st:List Bool×List Nat)(s:Nat):List Bool×List Nat:=if(s:Int)≠out/\st.1[s]? =some false then(st.1.set s true,st.2++ [s]) else st
def aaj (g:List (List Nat))(out:Int):Nat->List Bool->List Nat->List Bool->Prop
 |0,seen,work,F=>work=[]/\F=seen
 |k+1,seen,work,F=>∃st n,work=st++ [n]/\aaj g out k ((succ g n).foldl (aeY out) (seen,st)).1 ((succ g n).foldl (aeY out) (seen,st)).2 F
def iK (g:List (List Nat))(fr:Nat)(out:Int)(F:List Bool):Prop:=
 ((fr:Int)=out/\F=List.replicate g.length false)∨((fr:Int)≠out/\∃k,aaj g out k ((List.replicate g.length false).set fr true) [fr] F)
inductive Desc (g:List (List Nat)) (L:List Nat):Nat->Nat->Prop
 |refl (a:Nat):Desc g L a a
 |step {a c b:Nat}:c∈succ g a-> [c,a].Sublist L->Desc g L c b->Desc g L a b
theorem Desc.mono{L L':List Nat}(c:L.Sublist L'){a b:Nat}(h:Desc g L a b):Desc g L' a b:=by
 induction h with
 |refl a=>exact .refl a
 |step h1 h2 _ ih=>exact .step h1 (h2.trans c) ih
theorem Desc.last{L:List Nat}{a b:Nat}(h:Desc g L a b):a=b∨∃p,Desc g L a p/\b∈succ g p/\ [b,p].Sublist L:=by
 induction h with
 |refl a=>exact .inl rfl
 |@step a c b h1 h2 h3 ih=>
  rcases ih with rfl|⟨p,j,i,d⟩
  ·exact .inr ⟨a,.refl a,h1,h2⟩
  ·exact .inr ⟨p,.step h1 h2 j,i,d⟩
structure Found (g:List (List Nat)) (seen seen':List Bool) (L:List Nat):Prop where
 len:seen'.length=seen.length
 mem:∀x:Nat,x∈L↔(seen'[x]? =some true/\seen[x]? =some false)
 keep:∀x:Nat,seen[x]? =some true->seen'[x]? =some true
 nodup:L.Nodup
 edge:∀x∈L,∀s∈succ g x,seen'[s]? =some true
 back:∀x∈L,∀s∈succ g x,s∈L-> [s,x].Sublist L∨Desc g L s x
theorem gW {a b:Nat}{l m:List Nat}(c:a∈l)(hb:b∈m): [a,b].Sublist (l++m):=
 (List.singleton_sublist.2 c).append (List.singleton_sublist.2 hb)
theorem Found.nil (g:List (List Nat))(seen:List Bool):Found g seen seen []:=
 ⟨rfl,fun x=>⟨fun h=>by simp at h,fun h=>by rw[h.2] at h;simp at h⟩,fun _ h=>h,List.nodup_nil,by simp,by simp⟩
theorem Found.append{s0 s1 s2:List Bool}{L M:List Nat}(h:Found g s0 s1 L)(k:Found g s1 s2 M):Found g s0 s2 (L++M):=by
 refine⟨k.len.trans h.len,fun x=>?_,fun x c=>k.keep x (h.keep x c),?_,?_,?_⟩
 ·rw[Jl,h.mem,k.mem];constructor
  ·rintro(⟨h1,h2⟩|⟨h1,h2⟩)
   ·exact⟨k.keep x h1,h2⟩
   ·refine⟨h1,?_⟩;have d:x<s1.length:=(Jh.1 h2).1;rw[h.len] at d
    cases e:s0[x]'d with
    |false=>rw[Jd d,e]
    |true=>
     have:=h.keep x (by rw[Jd d,e]);rw[h2] at this;simp at this
  ·rintro⟨h1,h2⟩;have d:x<s0.length:=(Jh.1 h2).1;rw[<-h.len] at d
   cases e:s1[x]'d with
   |false=>exact .inr ⟨h1,by rw[Jd d,e]⟩
   |true=>exact .inl ⟨by rw[Jd d,e],h2⟩
 ·refine Qq.2 ⟨h.nodup,k.nodup,fun a ha b hb e=>?_⟩;subst e;have h1:=((h.mem a).1 ha).1;have h2:=((k.mem a).1 hb).2;rw[h1] at h2;simp at h2
 ·intro x c s hs;rcases Jl.1 c with c|c
  ·exact k.keep s (h.edge x c s hs)
  ·exact k.edge x c s hs
 ·intro x c s hs i;rcases Jl.1 c with c|c<;>rcases Jl.1 i with i|i
  ·rcases h.back x c s hs i with h1|h1
   ·exact .inl (h1.trans (Qg _ _))
   ·exact .inr (h1.mono (Qg _ _))
  ·have h1:=h.edge x c s hs;have h2:=((k.mem s).1 i).2;rw[h1] at h2;simp at h2
  ·exact .inl (gW i c)
  ·rcases k.back x c s hs i with h1|h1
   ·exact .inl (h1.trans (List.sublist_append_right _ _))
   ·exact .inr (h1.mono (List.sublist_append_right _ _))
def wa (seen:List Bool):Nat:=seen.count false
theorem vm:∀ {seen:List Bool} {n:Nat},seen[n]? =some false->wa (seen.set n true)+1=wa seen
 | [],n,h=>by simp at h
 |b::l,0,h=>by simp at h;subst h;simp[wa]
 |b::l,n+1,h=>by
  have:=vm (seen:=l) (n:=n) (by simpa using h);unfold wa at this ⊢;cases b<;>simp at this ⊢<;>omega
theorem cW:∀ {l l':List Bool},l'.length=l.length->(∀x:Nat,l[x]? =some true->l'[x]? =some true)->wa l'<=wa l
 | [],[],_,_=>Je _
 | [],b::l',h,_=>by simp at h
 |a::l,[],h,_=>by simp at h
 |a::l,b::l',h,hk=>by
  have:=cW (l:=l) (l':=l') (by simpa using h) (fun x hx=>by simpa using hk (x+1) (by simpa using hx));have c:=hk 0;unfold wa at this ⊢;cases a<;>cases b<;>simp at this c ⊢<;>omega
theorem dgetD {seen:List Bool}{s:Nat}(h:s<seen.length):(seen.getD s true=true/\seen[s]? =some true)∨(seen.getD s true=false/\seen[s]? =some false):=by
 rw[Jj,Jd h];cases seen[s]<;>simp
theorem aeK(hv:zw g){u s:Nat}(h:s∈succ g u):s<g.length:=by
 unfold succ at h;rw[Jj] at h
 cases e:g[u]? with
 |none=>rw[e] at h;simp at h
 |some l=>rw[e] at h;exact hv.2 l (Ji e) s h
def sj (g:List (List Nat))(f:Nat)(st:List Bool×List Nat)(s:Nat):List Bool×List Nat:=if st.1.getD s true then st else oy g f st s
theorem jK (g:List (List Nat))(f:Nat)(st:List Bool×List Nat)(n:Nat):
 oy g (f+1) st n=(((succ g n).foldl (sj g f) (st.1.set n true,st.2)).1,((succ g n).foldl (sj g f) (st.1.set n true,st.2)).2++ [n]):=rfl
def jg (g:List (List Nat))(st:List Bool×List Nat)(n:Nat)(r:List Bool×List Nat):Prop:=
 ∃L,r.2=st.2++(L++ [n])/\Found g st.1 r.1 (L++ [n])/\(∀x∈L++ [n],Desc g (L++ [n]) n x)/\
  ∀(stk:List (Nat×Nat)) (k:Nat) (F:List Nat),kV g k r.1 stk r.2 F->∃k',kV g k' (st.1.set n true) (stk++ [(n,0)]) st.2 F
def FoldOk (g:List (List Nat))(n:Nat)(j:Nat)(l:List Nat)(st r:List Bool×List Nat):Prop:=
 ∃L,r.2=st.2++L/\Found g st.1 r.1 L/\(∀x∈L,∃s∈l,s∈L/\Desc g L s x)/\(∀s∈l,r.1[s]? =some true)/\
  ∀(stk:List (Nat×Nat)) (k:Nat) (F:List Nat),kV g k r.1 (stk++ [(n,j+l.length)]) r.2 F->∃k',kV g k' st.1 (stk++ [(n,j)]) st.2 F
theorem nn(hv:zw g)(f:Nat)(ih:∀(st:List Bool×List Nat) (n:Nat),st.1.length=g.length->st.1[n]? =some false->wa st.1<=f->jg g st n (oy g f st n))(n:Nat):
 ∀(l:List Nat) (j:Nat) (st:List Bool×List Nat),(∀(k s:Nat),l[k]? =some s->(succ g n)[j+k]? =some s)->st.1.length=g.length->wa st.1<=f->FoldOk g n j l st (l.foldl (sj g f) st)
 | [],j,st,_,_,_=>⟨[],by simp,Found.nil _ _,by simp,by simp,fun stk k F h=>⟨k,by simpa using h⟩⟩
 |s::l,j,st,hl,hlen,hw=>by
  have hs:(succ g n)[j]? =some s:=by simpa using hl 0 s rfl
  have u:s<st.1.length:=by rw[hlen];exact aeK hv (Ji hs)
  have o:∀(k t:Nat),l[k]? =some t->(succ g n)[j+1+k]? =some t:=fun k t hk=>by
   have:=hl (k+1) t (by simpa using hk)
   rwa [show j+(k+1)=j+1+k by omega] at this
  rw[Qk];rcases dgetD u with⟨w,m⟩|⟨w,m⟩
  ·have e:sj g f st s=st:=by unfold sj;rw[if_pos w]
   rw[e];obtain⟨L,h1,h2,h3,h4,y⟩:=nn hv f ih n l (j+1) st o hlen hw;refine⟨L,h1,h2,fun x d=>?_,fun t ht=>?_,fun stk k F hD=>?_⟩
   ·obtain⟨t,a,b,c⟩:=h3 x d;exact⟨t,by simp[a],b,c⟩
   ·rcases Jq.1 ht with rfl|ht
    ·exact h2.keep t m
    ·exact h4 t ht
   ·obtain⟨k',i⟩:=y stk k F (by rw[Nq,show j+(l.length+1)=j+1+l.length by omega] at hD;exact hD);exact⟨k'+1,stk,n,j,rfl,.inr (.inl ⟨s,hs,m,i⟩)⟩
  ·have e:sj g f st s=oy g f st s:=by unfold sj;rw[if_neg (by rw[w];simp)]
   rw[e];obtain⟨L1,a1,a2,a3,a4⟩:=ih st s hlen m hw;obtain⟨L2,h1,h2,h3,h4,y⟩:=nn hv f ih n l (j+1) (oy g f st s) o (a2.len.trans hlen) (Jn (cW a2.len a2.keep) hw);refine⟨(L1++ [s])++L2,by rw[h1,a1];simp,a2.append h2,fun x d=>?_,fun t ht=>?_,fun stk k F hD=>?_⟩
   ·rcases Jl.1 d with d|d
    ·exact⟨s,by simp,by simp,(a3 x d).mono (Qg _ _)⟩
    ·obtain⟨t,b1,b2,b3⟩:=h3 x d;exact⟨t,by simp[b1],Jl.2 (.inr b2),b3.mono (List.sublist_append_right _ _)⟩
   ·rcases Jq.1 ht with rfl|ht
    ·exact h2.keep t ((a2.mem t).1 Zs).1
    ·exact h4 t ht
   ·obtain⟨k',i⟩:=y stk k F (by rw[Nq,show j+(l.length+1)=j+1+l.length by omega] at hD;exact hD);obtain⟨k2,a0⟩:=a4 (stk++ [(n,j+1)]) k' F i;exact⟨k2+1,stk,n,j,rfl,.inr (.inr ⟨s,hs,m,a0⟩)⟩
theorem mY(hv:zw g):∀(f:Nat) (st:List Bool×List Nat) (n:Nat),st.1.length=g.length->st.1[n]? =some false->wa st.1<=f->jg g st n (oy g f st n)
 |0,st,n,_,h,hw=>by have:=vm h;omega
 |f+1,st,n,hlen,h,hw=>by
  have a0:=vm h;have m:=(Jh.1 h).1;have j:(st.1.set n true)[n]? =some true:=by simp[m]
  have l:∀x:Nat,x≠n->(st.1.set n true)[x]? =st.1[x]?:=fun x c=>Ns (Ne.symm c)
  obtain⟨L,h1,h2,h3,y,u⟩:=nn hv f (mY hv f) n (succ g n) 0 (st.1.set n true,st.2) (fun k s hk=>by simpa using hk) (by simpa using hlen) (by dsimp only;omega);rw[jK];generalize (succ g n).foldl (sj g f) (st.1.set n true,st.2)=r at *
  dsimp only at h1 h2 u ⊢
  have o:n ∉ L:=fun hm=>by have:=((h2.mem n).1 hm).2;rw[j] at this;simp at this
  refine⟨L,by rw[h1];simp,⟨?_,?_,?_,?_,?_,?_⟩,?_,?_⟩
  ·have:=h2.len;simpa using this
  ·intro x;rw[Jl,Jo,h2.mem]
   by_cases c:x=n
   ·subst c;exact⟨fun _=>⟨h2.keep x j,h⟩,fun _=> .inr rfl⟩
   ·rw[l x c];simp[c]
  ·intro x c;refine h2.keep x ?_
   by_cases e:x=n
   ·subst e;exact j
   ·rw[l x e];exact c
  ·exact Qq.2 ⟨h2.nodup,by simp,fun a ha b hb e=>by simp at hb;subst hb;subst e;exact o ha⟩
  ·intro x c s hs;rcases Jl.1 c with c|c
   ·exact h2.edge x c s hs
   ·simp at c;subst c;exact y s hs
  ·intro x c s hs d;rcases Jl.1 c with i|i<;>rcases Jl.1 d with d|d
   ·rcases h2.back x i s hs d with h1|h1
    ·exact .inl (h1.trans (Qg _ _))
    ·exact .inr (h1.mono (Qg _ _))
   ·simp at d;subst d;obtain⟨t,b1,b2,b3⟩:=h3 x i;exact .inr (.step b1 (gW b2 Zs) (b3.mono (Qg _ _)))
   ·exact .inl (gW d i)
   ·simp at i d;subst i;subst d;exact .inr (.refl _)
  ·intro x c;rcases Jl.1 c with c|c
   ·obtain⟨t,b1,b2,b3⟩:=h3 x c;exact .step b1 (gW b2 Zs) (b3.mono (Qg _ _))
   ·simp at c;subst c;exact .refl _
  ·intro stk k F w;exact u stk (k+1) F ⟨stk,n,0+(succ g n).length,rfl,.inl ⟨by simp,w⟩⟩
theorem post_ok(hv:zw g):∃L,ae2 g=L++ [0]/\(ae2 g).Nodup/\(∀x∈ae2 g,x<g.length/\Desc g (ae2 g) 0 x/\∀s∈succ g x,s∈ae2 g/\([s,x].Sublist (ae2 g)∨Desc g (ae2 g) s x))/\
 ∃k,kV g k ((List.replicate g.length false).set 0 true) [(0,0)] [] (ae2 g):=by
 have h:wa (List.replicate g.length false)<=g.length:=by simp[wa]
 obtain⟨L,h1,h2,h3,i⟩:=mY hv g.length (List.replicate g.length false,[]) 0 Zs (by simp[hv.1]) h;have e:ae2 g=L++ [0]:=by unfold ae2;rw[h1];simp
 rw[e];refine⟨L,rfl,h2.nodup,fun x hx=>⟨?_,h3 x hx,fun s hs=>?_⟩,?_⟩
 ·have:=((h2.mem x).1 hx).2;have:=(Jh.1 this).1
  simpa using this
 ·have c:s∈L++ [0]:=(h2.mem s).2 ⟨h2.edge x hx s hs,by have:=aeK hv hs;simp[this]⟩;exact⟨c,h2.back x hx s hs c⟩
 ·obtain⟨k',d⟩:=i [] 0 (L++ [0]) ⟨rfl,by rw[h1];simp⟩;exact⟨k',by simpa using d⟩
inductive Walk (E:Nat->Nat->Prop) (P:Nat->Prop):Nat->Nat->Prop
 |refl {a:Nat}:P a->Walk E P a a
 |snoc {a b c:Nat}:Walk E P a b->E b c->P c->Walk E P a c
theorem Walk.mono{E E':Nat->Nat->Prop}{P:Nat->Prop}(d:∀a b,P a->P b->E a b->E' a b)(c:∀a,P a->P' a){a b:Nat}(h:Walk E P a b):P b/\Walk E' P' a b:=by
 induction h with
 |refl h=>exact⟨h,.refl (c _ h)⟩
 |snoc _ h2 h3 ih=>exact⟨h3,.snoc ih.2 (d _ _ ih.1 h3 h2) (c _ h3)⟩
theorem Walk.imp{E:Nat->Nat->Prop}{P:Nat->Prop}(c:∀a,P a->P' a){a b:Nat}(h:Walk E P a b):Walk E P' a b:=(h.mono (fun _ _ _ _ h=>h) c).2
theorem Walk.last {E:Nat->Nat->Prop}{P:Nat->Prop}{a b:Nat}(h:Walk E P a b):P b:=(h.mono (fun _ _ _ _ h=>h) (fun _ h=>h)).1
theorem Walk.first {E:Nat->Nat->Prop}{P:Nat->Prop}{a b:Nat}(h:Walk E P a b):P a:=by
 induction h with
 |refl h=>exact h
 |snoc _ _ _ ih=>exact ih
def Dom (E:Nat->Nat->Prop)(d x:Nat):Prop:=¬Walk E (·≠d) 0 x
def Reach (E:Nat->Nat->Prop)(x:Nat):Prop:=Walk E (fun _=>True) 0 x
theorem rF (E:Nat->Nat->Prop)(x:Nat):Dom E x x:=fun h=>h.last rfl
theorem dom_zero (E:Nat->Nat->Prop)(x:Nat):Dom E 0 x:=fun h=>h.first rfl
theorem rE{E:Nat->Nat->Prop}{p:Nat}(h:Dom E d x)(c:d≠x)(hp:E p x):Dom E d p:=fun hw=>h (.snoc hw hp (Ne.symm c))
theorem vI{E:Nat->Nat->Prop}(h:Dom E d 0):d=0:=by
 by_cases e:d=0
 ·exact e
 ·exact(h (.refl (Ne.symm e))).elim
theorem kH{E:Nat->Nat->Prop}{P:Nat->Prop}{x0:Nat}(b:Nat)(h:Walk E P x0 x):Walk E (fun y=>P y/\y≠b) x0 x∨Walk E P x0 b:=by
 induction h with
 |refl h=>
  by_cases e:x0=b
  ·rw[<-e];exact .inr (.refl h)
  ·exact .inl (.refl ⟨h,e⟩)
 |@snoc y c h1 h2 h3 ih=>
  rcases ih with ih|ih
  ·by_cases e:c=b
   ·rw[<-e];exact .inr (.snoc h1 h2 h3)
   ·exact .inl (.snoc ih h2 ⟨h3,e⟩)
  ·exact .inr ih
theorem oZ {E:Nat->Nat->Prop}{a b c:Nat}(h:Dom E a b)(k:Dom E b c):Dom E a c:=by
 intro d;rcases kH b d with h1|h1
 ·exact k (h1.imp (fun _ h=>h.2))
 ·exact h h1
theorem oT {E:Nat->Nat->Prop}{a b:Nat}(h:Dom E a b)(k:Dom E b a)(hr:Reach E a):a=b:=by
 by_cases e:a=b
 ·exact e
 have d:∀ {y:Nat},Walk E (fun _=>True) 0 y->Walk E (fun z=>z≠a/\z≠b) 0 y∨Walk E (·≠a) 0 b∨Walk E (·≠b) 0 a:=by
  intro y g
  induction g with
  |refl _=>
   by_cases h1:0=a
   ·exact .inr (.inr (by rw[<-h1];exact .refl (by rw[h1];exact e)))
   ·by_cases h2:0=b
    ·exact .inr (.inl (by rw[<-h2];exact .refl h1))
    ·exact .inl (.refl ⟨h1,h2⟩)
  |@snoc x c _ h2 _ ih=>
   rcases ih with ih|ih|ih
   ·by_cases h1:c=a
    ·subst h1;exact .inr (.inr (.snoc (ih.imp (fun _ h=>h.2)) h2 e))
    ·by_cases h3:c=b
     ·subst h3;exact .inr (.inl (.snoc (ih.imp (fun _ h=>h.1)) h2 (Ne.symm e)))
     ·exact .inl (.snoc ih h2 ⟨h1,h3⟩)
   ·exact .inr (.inl ih)
   ·exact .inr (.inr ih)
 rcases d hr with h1|h1|h1
 ·exact absurd rfl h1.last.1
 ·exact absurd h1 h
 ·exact absurd h1 k
inductive Anc (D:List Int):Nat->Nat->Prop
 |refl (x:Nat):Anc D x x
 |step {x y z:Nat}:D[x]? =some (y:Int)->Anc D y z->Anc D x z
theorem Anc.trans {D:List Int}{a b c:Nat}(h:Anc D a b)(k:Anc D b c):Anc D a c:=by
 induction h with
 |refl _=>exact k
 |step h1 _ ih=>exact .step h1 (ih k)
def yj (D:List Int)(x:Nat):Prop:=∃y:Nat,D[x]? =some (y:Int)
structure Ctx (n:Nat) (ns:List Nat) (preds:List (List Nat)) (f:Int->Int) (at_:Nat->Nat) (E:Nat->Nat->Prop):Prop where
 lt:∀x∈0::ns,x<n
 z:at_ 0=0
 sorted:ns.Pairwise (fun a b=>at_ a<at_ b)
 pos:∀x∈ns,0<at_ x
 inj:∀x∈0::ns,∀y∈0::ns,at_ x=at_ y->x=y
 hf:∀x∈0::ns,f (x:Int)=(at_ x:Int)
 pl:preds.length=n
 pm:∀v pr,preds[v]? =some pr->∀p,p∈pr↔E p v
 eo:∀u s,E u s->u∈0::ns/\s∈0::ns
 fw:∀v∈ns,∃p,E p v/\at_ p<at_ v
structure WF (n:Nat) (ns:List Nat) (at_:Nat->Nat) (D:List Int):Prop where
 len:D.length=n
 root:D[0]? =some 0
 up:∀x y:Nat,x≠0->D[x]? =some (y:Int)->at_ y<at_ x/\yj D y
 neg:∀(x:Nat) (v:Int),D[x]? =some v->v=-1∨∃y:Nat,v=(y:Int)
 sub:∀x:Nat,yj D x->x∈0::ns
section
variable {n:Nat} {ns:List Nat} {preds:List (List Nat)} {f:Int->Int} {at_:Nat->Nat} {E:Nat->Nat->Prop}
theorem WF.set0 {D:List Int}(h:WF n ns at_ D):yj D 0:=⟨0,h.root⟩
theorem WF.anc0 {D:List Int}(h:WF n ns at_ D){z:Nat}(ha:Anc D 0 z):z=0:=by
 have:∀ {x z:Nat},Anc D x z->x=0->z=0:=by
  intro x z ha
  induction ha with
  |refl _=>exact id
  |@step x y z h1 _ ih=>
   rintro rfl;rw[h.root] at h1;exact ih (by have:=Nt h1;omega)
 exact this ha rfl
theorem WF.anc_le{D:List Int}(h:WF n ns at_ D){z:Nat}(i:Anc D x z):yj D x->(z=x∨at_ z<at_ x)/\yj D z:=by
 induction i with
 |refl x=>exact fun hs=>⟨.inl rfl,hs⟩
 |@step x y z h1 h2 ih=>
  intro hs
  by_cases c:x=0
  ·subst c;rw[h.root] at h1;have g:y=0:=by have:=Nt h1;omega
   subst g;exact ih hs
  ·obtain⟨h3,k⟩:=h.up x y c h1;obtain⟨d,j⟩:=ih k;refine⟨.inr ?_,j⟩;rcases d with rfl|d<;>omega
theorem WF.le{D:List Int}(h:WF n ns at_ D){z:Nat}(c:Anc D x z)(hs:yj D x):at_ z<=at_ x:=by
 rcases(h.anc_le c hs).1 with rfl|h1<;>omega
theorem WF.to0 {D:List Int}(h:WF n ns at_ D):∀(m x:Nat),at_ x<=m->yj D x->Anc D x 0
 |m,x,hm,hs=>by
  by_cases hx:x=0
  ·subst hx;exact .refl _
  ·obtain⟨y,hy⟩:=hs;obtain⟨h1,h2⟩:=h.up x y hx hy
   cases m with
   |zero=>omega
   |succ m=>exact .step hy (WF.to0 h m y Zo h2)
theorem WF.lt{D:List Int}(h:WF n ns at_ D)(hs:yj D x):x<D.length:=by
 obtain⟨y,c⟩:=hs;exact(Jh.1 c).1
theorem up_ok (g:Ctx n ns preds f at_ E){D:List Int}(h:WF n ns at_ D)(t:Nat):∀(m a:Nat),at_ a<=m->yj D a->
 ∃k r,UpN D f (t:Int) k a r/\Anc D a r/\yj D r/\at_ r<=t/\(r=a∨at_ r<at_ a)/\∀z,Anc D a z->at_ z<=t->Anc D r z
 |m,a,hm,hs=>by
  have hfa:=g.hf a (h.sub a hs)
  by_cases d:at_ a<=t
  ·exact⟨0,a,⟨by rw[hfa];omega,rfl⟩,.refl _,hs,d,.inl rfl,fun z hz _=>hz⟩
  ·have i:a≠0:=by rintro rfl;rw[g.z] at d;omega
   have j:=hs;obtain⟨y,c⟩:=hs;obtain⟨h1,h2⟩:=h.up a y i c
   cases m with
   |zero=>omega
   |succ m=>
    obtain⟨k,r,a1,a2,a3,a4,a5,a6⟩:=up_ok g h t m y Zo h2;refine⟨k+1,r,⟨by rw[hfa];omega,y,h.lt h2,c,a1⟩,.step c a2,a3,a4,.inr (by rcases a5 with rfl|a5<;>omega),fun z hz hzt=>?_⟩
    cases hz with
    |refl _=>omega
    |@step _ y' _ h3 h4=>
     rw[c] at h3;have:y=y':=by have:=Nt h3;omega
     subst this;exact a6 z h4 hzt
theorem kk (c:Ctx n ns preds f at_ E){D:List Int}(h:WF n ns at_ D):∀(m a b:Nat),at_ a+at_ b<=m->yj D a->yj D b->
 ∃k r,qZ D f k a b r/\yj D r/\∀z,Anc D r z↔Anc D a z/\Anc D b z
 |m,a,b,hm,ha,hb=>by
  by_cases e:a=b
  ·subst e;exact⟨0,a,⟨rfl,rfl⟩,ha,fun z=>by simp⟩
  ·obtain⟨j,a',u1,u2,u3,u4,u5,u6⟩:=up_ok c h (at_ b) (at_ a) a (Je _) ha;obtain⟨j',b',v1,v2,v3,v4,v5,v6⟩:=up_ok c h (at_ a') (at_ b) b (Je _) hb
   have d:at_ a'+at_ b'<at_ a+at_ b:=by
    rcases u5 with rfl|u5
    ·rcases v5 with rfl|v5
     ·exact absurd (c.inj _ (h.sub _ ha) _ (h.sub _ hb) Zo) e
     ·omega
    ·rcases v5 with rfl|v5<;>omega
   cases m with
   |zero=>omega
   |succ m=>
    obtain⟨k,r,r1,r2,r3⟩:=kk c h m a' b' Zo u3 v3;refine⟨k+1,r,⟨e,j,a',by rw[c.hf b (h.sub b hb)];exact u1,j',b',by rw[c.hf a' (h.sub a' u3)];exact v1,r1⟩,r2,fun z=>?_⟩;rw[r3];constructor
    ·rintro⟨h1,h2⟩;exact⟨u2.trans h1,v2.trans h2⟩
    ·rintro⟨h1,h2⟩;have h3:=u6 z h1 (h.le h2 hb);exact⟨h3,v6 z h2 (h.le h3 u3)⟩
def adT (D:List Int)(S:List Nat)(d:Int):Prop:=
 (d=-1/\∀p∈S,¬yj D p)∨∃dn:Nat,d=(dn:Int)/\yj D dn/\∀z,Anc D dn z↔∀p∈S,yj D p->Anc D p z
theorem jJ (o:Ctx n ns preds f at_ E){D:List Int}(h:WF n ns at_ D){p:Nat}(hp:p<D.length){S:List Nat}{d:Int}(m:adT D S d):
 ∃d1,adT D (S++ [p]) d1/\mJ D f p d d1:=by
 obtain⟨x,j⟩:∃x,D[p]? =some x:=⟨_,Jd hp⟩
 rcases h.neg p x j with rfl|⟨y,rfl⟩
 ·have l:¬yj D p:=fun⟨y,hy⟩=>by rw[j] at hy;have:=Nt hy;omega
  refine⟨d,?_,-1,j,.inl ⟨by omega,rfl⟩⟩;rcases m with⟨h1,h2⟩|⟨dn,h1,h2,h3⟩
  ·exact .inl ⟨h1,fun q c=>by rcases Jl.1 c with c|c;exact h2 q c;simp at c;subst c;exact l⟩
  ·refine .inr ⟨dn,h1,h2,fun z=>?_⟩;rw[h3];constructor
   ·intro g q c hs;rcases Jl.1 c with c|c
    ·exact g q c hs
    ·simp at c;subst c;exact absurd hs l
   ·exact fun g q c hs=>g q (Jl.2 (.inl c)) hs
 ·have hs:yj D p:=⟨y,j⟩
  rcases m with⟨rfl,h2⟩|⟨dn,rfl,h2,h3⟩
  ·refine⟨(p:Int),.inr ⟨p,rfl,hs,fun z=>?_⟩,_,j,.inr (.inl ⟨by omega,by omega,rfl⟩)⟩;constructor
   ·intro g q c i;rcases Jl.1 c with c|c
    ·exact absurd i (h2 q c)
    ·simp at c;subst c;exact g
   ·exact fun g=>g p Zs hs
  ·obtain⟨k,r,r1,r2,r3⟩:=kk o h _ p dn (Je _) hs h2;refine⟨(r:Int),.inr ⟨r,rfl,r2,fun z=>?_⟩,_,j,.inr (.inr ⟨by omega,dn,rfl,h.lt h2,k,r,r1,rfl⟩)⟩;rw[r3,h3];constructor
   ·rintro⟨u,t⟩ q c i;rcases Jl.1 c with c|c
    ·exact t q c i
    ·simp at c;subst c;exact u
   ·exact fun g=>⟨g p Zs hs,fun q c i=>g q (Jl.2 (.inl c)) i⟩
theorem mt (c:Ctx n ns preds f at_ E){D:List Int}(h:WF n ns at_ D):∀(l S:List Nat) (d:Int),(∀p∈l,p<D.length)->adT D S d->∃d1,adT D (S++l) d1/\wi D f l d d1
 | [],S,d,_,hd=>⟨d,by simpa using hd,rfl⟩
 |p::l,S,d,hl,hd=>by
  obtain⟨d1,h1,h2⟩:=jJ c h (hl p Zs) hd;obtain⟨d2,h3,g⟩:=mt c h l (S++ [p]) d1 (fun q hq=>hl q (by simp[hq])) h1;exact⟨d2,by simpa using h3,d1,h2,g⟩
theorem tot_ok (k:Ctx n ns preds f at_ E){D:List Int}(h:WF n ns at_ D)(l:List Nat)(hl:∀p∈l,p<D.length):TotR D f l:=by
 intro p hp;refine⟨hl p hp,fun d hd=>?_⟩
 have c:∀d1 S,adT D S d1->OkD D d1:=by
  rintro d1 S (⟨h1,_⟩|⟨dn,rfl,⟨y,g⟩,_⟩)
  ·exact .inl h1
  ·exact .inr ⟨dn,rfl,(Jh.1 g).1,_,g,by omega⟩
 have j:∃S,adT D S d:=by
  rcases hd with rfl|⟨dn,rfl,h1,x,i,o⟩
  ·exact⟨[],.inl ⟨rfl,by simp⟩⟩
  ·have hs:yj D dn:=by rcases h.neg dn x i with rfl|⟨y,rfl⟩;omega;exact⟨y,i⟩
   exact⟨[dn],.inr ⟨dn,rfl,hs,fun z=>⟨fun ha q hq _=>by simp at hq;subst hq;exact ha,fun ha=>ha dn Zs hs⟩⟩⟩
 obtain⟨S,m⟩:=j;obtain⟨d1,h1,h2⟩:=jJ k h (hl p hp) m;exact⟨d1,c _ _ h1,h2⟩
def NodeOk (at_:Nat->Nat)(E:Nat->Nat->Prop)(E1:List Int)(v:Nat)(dn:Nat):Prop:=
 at_ dn<at_ v/\yj E1 dn/\∀z,Anc E1 dn z↔∀p,E p v->yj E1 p->Anc E1 p z
theorem node_ok (c:Ctx n ns preds f at_ E){D:List Int}(h:WF n ns at_ D){v:Nat}(hv:v∈ns)(hs:∀x∈0::ns,at_ x<at_ v->yj D x):
 ∃pr dn,preds[v]? =some pr/\TotR D f pr/\wi D f pr (-1) (dn:Nat)/\NodeOk at_ E D v dn:=by
 have o:=c.lt v (by simp[hv]);obtain⟨pr,j⟩:∃pr,preds[v]? =some pr:=⟨_,Jd (by rw[c.pl];exact o)⟩
 have hm:=c.pm v pr j;have k:∀p∈pr,p<D.length:=fun p hp=>by rw[h.len];exact c.lt p (c.eo _ _ ((hm p).1 hp)).1
 obtain⟨d,h1,h2⟩:=mt c h pr [] (-1) k (.inl ⟨rfl,by simp⟩);obtain⟨p0,i,m⟩:=c.fw v hv;have g:=hs p0 (c.eo _ _ i).1 m;rcases h1 with⟨_,h1⟩|⟨dn,rfl,h3,t⟩
 ·exact absurd g (h1 p0 (by simpa using(hm p0).2 i))
 ·have l:∀z,Anc D dn z↔∀p,E p v->yj D p->Anc D p z:=fun z=>by
   rw[t];exact⟨fun ha p hp=>ha p (by simpa using(hm p).2 hp),fun ha p hp=>ha p ((hm p).1 (by simpa using hp))⟩
  have:=h.le (((l dn).1 (.refl _)) p0 i g) g;exact⟨pr,dn,j,tot_ok c h pr k,h2,by omega,h3,l⟩
theorem WF.put {D:List Int}(j:Ctx n ns preds f at_ E)(h:WF n ns at_ D){v dn:Nat}(hv:v∈ns)(h1:at_ dn<at_ v)(h2:yj D dn):WF n ns at_ (D.set v (dn:Int)):=by
 have k:=j.lt v (by simp[hv]);have l:v≠0:=by rintro rfl;have:=j.pos 0 hv;rw[j.z] at this;omega
 have d:v<D.length:=by rw[h.len];exact k
 have i:∀x,yj D x->yj (D.set v (dn:Int)) x:=by
  rintro x ⟨y,c⟩
  by_cases e:v=x
  ·subst e;exact⟨dn,by rw[Nn d]⟩
  ·exact⟨y,by rw[Ns e];exact c⟩
 refine⟨by simpa using h.len,by rw[Ns l];exact h.root,?_,?_,?_⟩
 ·intro x y m c
  by_cases e:v=x
  ·subst e;rw[Nn d] at c;have:dn=y:=by have:=Nt c;omega
   subst this;exact⟨h1,i _ h2⟩
  ·rw[Ns e] at c;obtain⟨h3,o⟩:=h.up x y m c;exact⟨h3,i _ o⟩
 ·intro x w g
  by_cases e:v=x
  ·subst e;rw[Nn d] at g;exact .inr ⟨dn,(Nt g).symm⟩
  ·rw[Ns e] at g;exact h.neg x w g
 ·rintro x ⟨y,c⟩
  by_cases e:v=x
  ·subst e;simp[hv]
  ·rw[Ns e] at c;exact h.sub x ⟨y,c⟩
def ow (ns:List Nat)(at_:Nat->Nat)(E:Nat->Nat->Prop)(n:Nat)(l:List Nat)(D D':List Int):Prop:=
 ∀v∈l,∃(E1:List Int) (dn:Nat),WF n ns at_ E1/\(∀y∈0::ns,at_ y<at_ v->E1[y]? =D'[y]?)/\(∀y:Nat,at_ v<=at_ y->E1[y]? =D[y]?)/\D'[v]? =some (dn:Int)/\NodeOk at_ E E1 v dn
theorem nh (o:Ctx n ns preds f at_ E):∀(l:List Nat) (D:List Int) (ch:Bool),WF n ns at_ D->(∀v∈l,v∈ns)->l.Pairwise (fun a b=>at_ a<at_ b)->(∀x∈0::ns,x ∉ l->yj D x/\∀v∈l,at_ x<at_ v)->
 ∃D' ch',ny preds f l D ch D' ch'/\WF n ns at_ D'/\(∀x:Nat,x ∉ l->D'[x]? =D[x]?)/\ow ns at_ E n l D D'/\(∀x∈0::ns,yj D' x)/\(ch'=false->ch=false/\D'=D)/\(ch'=true->ch=true∨D'≠D)
 | [],D,ch,h,_,_,hs=>⟨D,ch,⟨rfl,rfl⟩,h,fun _ _=>rfl,fun v hv=>by simp at hv,fun x hx=>(hs x hx Zs).1,fun e=>⟨e,rfl⟩,.inl⟩
 |v::l,D,ch,h,hl,hp,hs=>by
  have hv:=hl v Zs;have j:=(List.pairwise_cons.1 hp).1;have a3:=(List.pairwise_cons.1 hp).2;have w:v ∉ l:=fun hm=>by have:=j v hm;omega
  have a2:∀x∈0::ns,at_ x<at_ v->yj D x:=by
   intro x hx a4
   by_cases hm:x∈v::l
   ·rcases Jq.1 hm with rfl|hm
    ·omega
    ·have:=j x hm;omega
   ·exact(hs x hx hm).1
  obtain⟨pr,dn,b1,b2,b3,b4⟩:=node_ok o h hv a2;have t:v<D.length:=by rw[h.len];exact o.lt v (by simp[hv])
  obtain⟨old,g⟩:∃old,D[v]? =some old:=⟨_,Jd t⟩
  have a0:=h.put o hv b4.1 b4.2.1;have d:(D.set v (dn:Int))[v]? =some (dn:Int):=Nn t;have c:∀y:Nat,y≠v->(D.set v (dn:Int))[y]? =D[y]?:=fun y k=>Ns (Ne.symm k)
  obtain⟨D',ch',c1,c2,c3,c4,c5,c6,c7⟩:=nh o l (D.set v (dn:Int)) (if old=(dn:Int) then ch else true) a0 (fun x hx=>hl x (by simp[hx])) a3 (by
   intro x hx hm
   by_cases e:x=v
   ·subst e;exact⟨⟨dn,d⟩,j⟩
   ·have:=hs x hx (by simp[e,hm]);obtain⟨⟨y,k⟩,h2⟩:=this
    exact⟨⟨y,by rw[c x e];exact k⟩,fun u m=>h2 u (by simp[m])⟩)
  refine⟨D',ch',⟨pr,dn,old,b1,b2,b3,g,?_⟩,c2,?_,?_,c5,?_,?_⟩
  ·by_cases e:old=(dn:Int)
   ·refine .inl ⟨e,?_⟩
    have e2:D.set v (dn:Int)=D:=by
     apply Oq;intro i
     by_cases hi:i=v
     ·subst hi;rw[d,g,e]
     ·exact c i hi
    rw[if_pos e,e2] at c1;exact c1
   ·rw[if_neg e] at c1;exact .inr ⟨e,c1⟩
  ·intro x hx;rw[c3 x (fun hm=>hx (by simp[hm])),c x (fun e=>hx (by simp[e]))]
  ·intro u a1;rcases Jq.1 a1 with rfl|m
   ·refine⟨D,dn,h,fun y k a4=>?_,fun _ _=>rfl,by rw[c3 u w];exact d,b4⟩;rw[c3 y (fun hm=>by have:=j y hm;omega),c y (fun e=>by subst e;omega)]
   ·obtain⟨E1,d1,e1,e2,e3,e4,e5⟩:=c4 u m;refine⟨E1,d1,e1,e2,fun y k=>?_,e4,e5⟩;rw[e3 y k,c y (fun e=>by have:=j u m;rw[e] at k;omega)]
  ·intro e;obtain⟨d1,d2⟩:=c6 e
   by_cases e':old=(dn:Int)
   ·rw[if_pos e'] at d1;refine⟨d1,d2.trans ?_⟩;apply Oq;intro i
    by_cases hi:i=v
    ·subst hi;rw[d,g,e']
    ·exact c i hi
   ·rw[if_neg e'] at d1;simp at d1
  ·intro e
   by_cases e':old=(dn:Int)
   ·have e2:D.set v (dn:Int)=D:=by
     apply Oq;intro i
     by_cases hi:i=v
     ·subst hi;rw[d,g,e']
     ·exact c i hi
    rcases c7 e with c7|c7
    ·rw[if_pos e'] at c7;exact .inl c7
    ·rw[e2] at c7;exact .inr c7
   ·refine .inr (fun e3=>e' ?_);have h1:=c3 v w;rw[d,e3,g] at h1;exact Nt h1
end
section
variable {n:Nat} {ns:List Nat} {preds:List (List Nat)} {f:Int->Int} {at_:Nat->Nat} {E:Nat->Nat->Prop}
theorem dK{D:List Int}(h:WF n ns at_ D){z:Nat}(g:Anc D x z):yj D x->(∀y∈0::ns,at_ y<=at_ x->D[y]? =D'[y]?)->Anc D' x z:=by
 induction g with
 |refl x=>exact fun _ _=> .refl x
 |@step x y z h1 h2 ih=>
  intro hs c;have d:=c x (h.sub x hs) (Je _);have h3:=(h.anc_le (.step h1 (.refl y)) hs)
  have i:at_ y<=at_ x:=by rcases h3.1 with rfl|j<;>omega
  exact .step (d ▸ h1) (ih h3.2 (fun u hu hle'=>c u hu Zo))
structure RI (n:Nat) (ns:List Nat) (at_:Nat->Nat) (E:Nat->Nat->Prop) (D:List Int):Prop where
 wf:WF n ns at_ D
 all:∀x∈0::ns,yj D x
 H:∀v∈ns,∀p,E p v->at_ p<at_ v->∀z,Anc D v z->z≠v->Anc D p z
 J:∀v∈ns,∀z,(∀p,E p v->Anc D p z)->Anc D v z
 S:∀v∈0::ns,∀z,Dom E z v->Anc D v z
theorem j5{E1 D:List Int}{v:Nat}(h1:WF n ns at_ E1)(g:WF n ns at_ D')(d:∀y∈0::ns,at_ y<at_ v->E1[y]? =D'[y]?)(hs:yj E1 x)(c:yj D' x)(i:at_ x<at_ v)(z:Nat):
 Anc E1 x z↔Anc D' x z:=
 ⟨fun h=>dK h1 h hs (fun y hy hle=>d y hy Zo),fun h=>dK g h c (fun y hy hle=>(d y hy Zo).symm)⟩
theorem ns_ne0 (c:Ctx n ns preds f at_ E){v:Nat}(hv:v∈ns):v≠0:=by rintro rfl;have:=c.pos 0 hv;rw[c.z] at this;omega
theorem nr(u:Ctx n ns preds f at_ E)(h':WF n ns at_ D')(i:∀x∈0::ns,yj D' x)(hp:ow ns at_ E n ns ((0:Int)::List.replicate (n-1) (-1)) D'):RI n ns at_ E D':=by
 have a3:∀y:Nat,y≠0->∀w:Nat,((0:Int)::List.replicate (n-1) (-1))[y]?≠some (w:Int):=by
  intro y k w
  cases y with
  |zero=>exact absurd rfl k
  |succ y=>
   rw[List.getElem?_cons_succ,Nm]
   split
   ·intro e;have:=Nt e;omega
   ·simp
 have l:∀v∈ns,∃dn:Nat,D'[v]? =some (dn:Int)/\at_ dn<at_ v/\∀z,Anc D' dn z↔∀p,E p v->at_ p<at_ v->Anc D' p z:=by
  intro v hv;obtain⟨E1,dn,e1,e2,e3,e4,e5,e6,e7⟩:=hp v hv
  have o:∀p∈0::ns,at_ p<at_ v->yj E1 p:=fun p hp d=>by
   obtain⟨y,k⟩:=i p hp;exact⟨y,by rw[e2 p hp d];exact k⟩
  refine⟨dn,e4,e5,fun z=>?_⟩;rw[<-j5 (D:=D') e1 h' e2 e6 (i dn (e1.sub dn e6)) e5 z,e7];constructor
  ·intro h p c d;have j:=(u.eo _ _ c).1;exact(j5 (D:=D') e1 h' e2 (o p j d) (i p j) d z).1 (h p c (o p j d))
  ·intro h p c hs;have j:=(u.eo _ _ c).1
   by_cases d:at_ p<at_ v
   ·exact(j5 (D:=D') e1 h' e2 hs (i p j) d z).2 (h p c d)
   ·obtain⟨y,k⟩:=hs;rw[e3 p Zo] at k
    by_cases a0:p=0
    ·subst a0;rw[u.z] at d;omega
    ·exact absurd k (a3 p a0 y)
 have a1:∀v∈ns,∀dn:Nat,D'[v]? =some (dn:Int)->∀z,Anc D' v z->z≠v->Anc D' dn z:=by
  intro v hv dn a2 z g t
  cases g with
  |refl _=>exact absurd rfl t
  |@step _ y _ h1 h2=>
   rw[a2] at h1;have:dn=y:=by have:=Nt h1;omega
   subst this;exact h2
 refine⟨h',i,?_,?_,?_⟩
 ·intro v hv p c d z g t;obtain⟨dn,k1,k2,k3⟩:=l v hv;exact(k3 z).1 (a1 v hv dn k1 z g t) p c d
 ·intro v hv z g;obtain⟨dn,k1,k2,k3⟩:=l v hv;exact .step k1 ((k3 z).2 (fun p c _=>g p c))
 ·have hS:∀(m v:Nat),at_ v<=m->v∈0::ns->∀z,Dom E z v->Anc D' v z:=by
   intro m
   induction m with
   |zero=>
    intro v hm hv z g;rcases Jq.1 hv with rfl|hv
    ·have:=vI g;subst this;exact .refl _
    ·have:=u.pos v hv;omega
   |succ m ih=>
    intro v hm hv z g;rcases Jq.1 hv with rfl|hv
    ·have:=vI g;subst this;exact .refl _
    ·by_cases e:z=v
     ·subst e;exact .refl _
     ·obtain⟨dn,k1,k2,k3⟩:=l v hv;exact .step k1 ((k3 z).2 (fun p c d=>ih p Zo (u.eo _ _ c).1 z (rE g e c)))
  exact fun v hv z g=>hS _ v (Je _) hv z g
theorem kT(w:Ctx n ns preds f at_ E){D:List Int}(h:RI n ns at_ E D)(t:WF n ns at_ D')(g:∀x∈0::ns,yj D' x)(hp:ow ns at_ E n ns D D'):
 RI n ns at_ E D'/\∀v∈0::ns,∀z,Anc D' v z->Anc D v z:=by
 have a4:∀v∈ns,∀E1:List Int,(∀y∈0::ns,at_ y<at_ v->E1[y]? =D'[y]?)->(∀y:Nat,at_ v<=at_ y->E1[y]? =D[y]?)->∀p∈0::ns,yj E1 p:=by
  intro v hv E1 e2 e3 p hp
  by_cases k:at_ p<at_ v
  ·obtain⟨y,hy⟩:=g p hp;exact⟨y,by rw[e2 p hp k];exact hy⟩
  ·obtain⟨y,hy⟩:=h.all p hp;exact⟨y,by rw[e3 p Zo];exact hy⟩
 have L1:∀v∈ns,∀E1:List Int,WF n ns at_ E1->(∀y∈0::ns,at_ y<at_ v->E1[y]? =D'[y]?)->(∀y:Nat,at_ v<=at_ y->E1[y]? =D[y]?)->∀ {p z:Nat},Anc E1 p z->p∈0::ns->at_ v<=at_ p->
  (at_ v<=at_ z/\Anc D p z)∨(at_ z<at_ v/\∃u∈0::ns,Anc D p u/\at_ u<at_ v/\Anc D' u z):=by
  intro v hv E1 e1 e2 e3 p z ha
  induction ha with
  |refl p=>exact fun _ a6=> .inl ⟨a6,.refl _⟩
  |@step p c z h1 h2 ih=>
   intro d a6;have b2:yj E1 p:=⟨c,h1⟩
   have a3:=(e1.anc_le (.step h1 (.refl c)) b2).2;have b7:=e1.sub c a3;have hD:D[p]? =some (c:Int):=by rw[<-e3 p a6];exact h1
   by_cases k:at_ c<at_ v
   ·have i:=e1.le h2 a3;exact .inr ⟨by omega,c,b7,.step hD (.refl c),k,(j5 (D:=D') e1 t e2 a3 (g c b7) k z).1 h2⟩
   ·rcases ih b7 Zo with⟨a,b⟩|⟨a,u,b,b',b'',b'''⟩
    ·exact .inl ⟨a,.step hD b⟩
    ·exact .inr ⟨a,u,b,.step hD b',b'',b'''⟩
 have L2:∀v∈ns,∀E1:List Int,(∀y:Nat,at_ v<=at_ y->E1[y]? =D[y]?)->∀ {p z:Nat},Anc D p z->yj D p->at_ v<=at_ p->at_ z<at_ v->∃u∈0::ns,Anc D p u/\at_ u<at_ v/\Anc D u z/\Anc E1 p u:=by
  intro v hv E1 e3 p z ha
  induction ha with
  |refl p=>intro _ h1 h2;omega
  |@step p c z h1 h2 ih=>
   intro b2 a6 k;have a3:=(h.wf.anc_le (.step h1 (.refl c)) b2).2;have hE:E1[p]? =some (c:Int):=by rw[e3 p a6];exact h1
   by_cases hl:at_ c<at_ v
   ·exact⟨c,h.wf.sub c a3,.step h1 (.refl c),hl,h2,.step hE (.refl c)⟩
   ·obtain⟨u,a,b,b',b'',b'''⟩:=ih a3 Zo k;exact⟨u,a,.step h1 b,b',b'',.step hE b'''⟩
 have b8:∀ {B:List Int} {v dn:Nat},B[v]? =some (dn:Int)->∀ {z:Nat},Anc B v z->z≠v->Anc B dn z:=by
  intro B v dn c2 z i a5
  cases i with
  |refl _=>exact absurd rfl a5
  |@step _ y _ h1 h2=>
   rw[c2] at h1;have:dn=y:=by have:=Nt h1;omega
   subst this;exact h2
 have C:∀(m v:Nat),at_ v<=m->v∈0::ns->(∀z,Anc D' v z->Anc D v z)/\∀u,Anc D v u->∀z,Anc D' v z->at_ z<=at_ u->Anc D' u z:=by
  intro m
  have base:(∀z,Anc D' 0 z->Anc D 0 z)/\∀u,Anc D 0 u->∀z,Anc D' 0 z->at_ z<=at_ u->Anc D' u z:=
   ⟨fun z i=>by have:=t.anc0 i;subst this;exact .refl _,fun u hu z i _=>by have:=h.wf.anc0 hu;subst this;exact i⟩
  induction m with
  |zero=>
   intro v hm hv;rcases Jq.1 hv with rfl|hv
   ·exact base
   ·have:=w.pos v hv;omega
  |succ m ih=>
   intro v hm hv;rcases Jq.1 hv with rfl|hv
   ·exact base
   ·obtain⟨E1,dn,e1,e2,e3,e4,e5,e6,e7⟩:=hp v hv;have c1:v∈0::ns:=by simp[hv]
    have o:=a4 v hv E1 e2 e3;obtain⟨f0,l,a2⟩:=w.fw v hv
    have b0:∀z,Anc D' v z->z≠v->at_ z<at_ v/\∀p,E p v->Anc E1 p z:=by
     intro z i a5;have h1:=b8 e4 i a5;have a1:=e1.sub dn e6;have h2:=t.le h1 (g dn a1);exact⟨by omega,fun p j=>(e7 z).1 ((j5 (D:=D') e1 t e2 e6 (g dn a1) e5 z).2 h1) p j (o p (w.eo _ _ j).1)⟩
    refine⟨fun z i=>?_,fun u hu z i b1=>?_⟩
    ·by_cases e:z=v
     ·subst e;exact .refl _
     ·obtain⟨b9,a0⟩:=b0 z i e;refine h.J v hv z (fun p j=>?_);have d:=(w.eo _ _ j).1
      by_cases k:at_ p<at_ v
      ·exact(ih p Zo d).1 z ((j5 (D:=D') e1 t e2 (o p d) (g p d) k z).1 (a0 p j))
      ·rcases L1 v hv E1 e1 e2 e3 (a0 p j) d Zo with⟨a,_⟩|⟨_,u,b,b',b'',b'''⟩
       ·omega
       ·exact b'.trans ((ih u Zo b).1 z b''')
    ·by_cases e:u=v
     ·subst e;exact i
     ·have a8:z≠v:=by
       rintro rfl;rcases(h.wf.anc_le hu (h.all z c1)).1 with h1|h1
       ·exact e h1
       ·omega
      obtain⟨b9,a0⟩:=b0 z i a8;have b5:=(w.eo _ _ l).1;exact(ih f0 Zo b5).2 u (h.H v hv f0 l a2 u hu e) z ((j5 (D:=D') e1 t e2 (o f0 b5) (g f0 b5) a2 z).1 (a0 f0 l)) b1
 have C1:∀v∈0::ns,∀z,Anc D' v z->Anc D v z:=fun v hv=>(C _ v (Je _) hv).1
 have C2:∀v∈0::ns,∀u,Anc D v u->∀z,Anc D' v z->at_ z<=at_ u->Anc D' u z:=fun v hv=>(C _ v (Je _) hv).2
 have SS:∀(m p:Nat),at_ p<=m->p∈0::ns->∀u,Anc D p u->∀z,Dom E z p->at_ z<=at_ u->Dom E z u:=by
  intro m
  induction m with
  |zero=>
   intro p hm d u hu z i _;rcases Jq.1 d with rfl|hv
   ·have:=h.wf.anc0 hu;subst this;exact i
   ·have:=w.pos p hv;omega
  |succ m ih=>
   intro p hm d u hu z i b1;rcases Jq.1 d with rfl|hv
   ·have:=h.wf.anc0 hu;subst this;exact i
   ·by_cases e:u=p
    ·subst e;exact i
    ·obtain⟨f0,l,a2⟩:=w.fw p hv
     have a8:z≠p:=by
      rintro rfl;rcases(h.wf.anc_le hu (h.all z d)).1 with h1|h1
      ·exact e h1
      ·omega
     exact ih f0 Zo (w.eo _ _ l).1 u (h.H p hv f0 l a2 u hu e) z (rE i a8 l) b1
 refine⟨⟨t,g,?_,?_,?_⟩,C1⟩
 ·intro v hv p j k z i a5;obtain⟨E1,dn,e1,e2,e3,e4,e5,e6,e7⟩:=hp v hv;have o:=a4 v hv E1 e2 e3;have a1:=e1.sub dn e6;have d:=(w.eo _ _ j).1;have h1:=(j5 (D:=D') e1 t e2 e6 (g dn a1) e5 z).2 (b8 e4 i a5);exact(j5 (D:=D') e1 t e2 (o p d) (g p d) k z).1 ((e7 z).1 h1 p j (o p d))
 ·intro v hv z i;obtain⟨E1,dn,e1,e2,e3,e4,e5,e6,e7⟩:=hp v hv;have o:=a4 v hv E1 e2 e3;have a1:=e1.sub dn e6;obtain⟨f0,l,a2⟩:=w.fw v hv;have c0:=t.le (i f0 l) (g f0 (w.eo _ _ l).1);refine .step e4 ((j5 (D:=D') e1 t e2 e6 (g dn a1) e5 z).1 ((e7 z).2 (fun p j _=>?_)));have d:=(w.eo _ _ j).1
  by_cases k:at_ p<at_ v
  ·exact(j5 (D:=D') e1 t e2 (o p d) (g p d) k z).2 (i p j)
  ·obtain⟨u,b,b',b'',b3,b4⟩:=L2 v hv E1 e3 (C1 p d z (i p j)) (h.all p d) Zo Zo;have h1:=C2 p d u b' z (i p j) (h.wf.le b3 (h.all u b));exact b4.trans ((j5 (D:=D') e1 t e2 (o u b) (g u b) b'' z).2 h1)
 ·have hS:∀(m v:Nat),at_ v<=m->v∈0::ns->∀z,Dom E z v->Anc D' v z:=by
   intro m
   induction m with
   |zero=>
    intro v hm hv z i;rcases Jq.1 hv with rfl|hv
    ·have:=vI i;subst this;exact .refl _
    ·have:=w.pos v hv;omega
   |succ m ih=>
    intro v hm hv z i;rcases Jq.1 hv with rfl|hv
    ·have:=vI i;subst this;exact .refl _
    ·by_cases e:z=v
     ·subst e;exact .refl _
     ·obtain⟨E1,dn,e1,e2,e3,e4,e5,e6,e7⟩:=hp v hv;have o:=a4 v hv E1 e2 e3;have a1:=e1.sub dn e6;obtain⟨f0,l,a2⟩:=w.fw v hv;have b6:=(w.eo _ _ l).1;have c0:=t.le (ih f0 Zo b6 z (rE i e l)) (g f0 b6);refine .step e4 ((j5 (D:=D') e1 t e2 e6 (g dn a1) e5 z).1 ((e7 z).2 (fun p j _=>?_)));have d:=(w.eo _ _ j).1;have a0:=rE i e j
      by_cases k:at_ p<at_ v
      ·exact(j5 (D:=D') e1 t e2 (o p d) (g p d) k z).2 (ih p Zo d z a0)
      ·obtain⟨u,b,b',b'',b3,b4⟩:=L2 v hv E1 e3 (h.S p d z a0) (h.all p d) Zo Zo;have h1:=SS _ p (Je _) d u b' z a0 (h.wf.le b3 (h.all u b));exact b4.trans ((j5 (D:=D') e1 t e2 (o u b) (g u b) b'' z).2 (ih u Zo b z h1))
  exact fun v hv z i=>hS _ v (Je _) hv z i
def meas (at_:Nat->Nat)(ns:List Nat)(D:List Int):Nat:=(ns.map fun x=>at_ (D.getD x 0).toNat).sum
theorem sum_le (g g':Nat->Nat):∀(l:List Nat),(∀x∈l,g' x<=g x)->(l.map g').sum<=(l.map g).sum/\((∃x∈l,g' x<g x)->(l.map g').sum<(l.map g).sum)
 | [],_=>⟨Je _,fun⟨x,hx,_⟩=>by simp at hx⟩
 |a::l,h=>by
  obtain⟨h1,h2⟩:=sum_le g g' l (fun x hx=>h x (by simp[hx]));have h3:=h a Zs;simp only[Ql,List.sum_cons];refine⟨by omega,fun⟨x,hx,hlt⟩=>?_⟩;rcases Jq.1 hx with rfl|hx
  ·omega
  ·have:=h2 ⟨x,hx,hlt⟩;omega
theorem kO (g:Ctx n ns preds f at_ E):∀(m:Nat) (D:List Int),meas at_ ns D<=m->RI n ns at_ E D->∃k D',ip preds f ns k D D'/\RI n ns at_ E D'/\ow ns at_ E n ns D' D':=by
 intro m
 induction m using Nat.strongRecOn with
 |_ m IH=>
  intro D hm h
  obtain⟨D',ch,c1,c2,c3,c4,c5,c6,c7⟩:=nh g ns D false h.wf (fun v hv=>hv) g.sorted (by
   intro x c hm;rcases Jq.1 c with rfl|c
   ·exact⟨h.wf.set0,fun v hv=>by rw[g.z];exact g.pos v hv⟩
   ·exact absurd c hm)
  obtain⟨u,a1⟩:=kT g h c2 c5 c4
  cases ch with
  |false=>
   obtain⟨_,rfl⟩:=c6 rfl
   exact⟨1,D',⟨D',false,c1,.inl ⟨rfl,rfl⟩⟩,u,c4⟩
  |true=>
   have a3:D'≠D:=by rcases c7 rfl with h1|h1;simp at h1;exact h1
   have t:∀x∈ns,∃y y':Nat,D[x]? =some (y:Int)/\D'[x]? =some (y':Int)/\(y'=y∨at_ y'<at_ y):=by
    intro x c;have o:x∈0::ns:=by simp[c]
    obtain⟨y,l⟩:=h.all x o;obtain⟨y',j⟩:=c5 x o;refine⟨y,y',l,j,?_⟩;have h1:=a1 x o y' (.step j (.refl _));have h2:=(c2.up x y' (ns_ne0 g c) j).1;have h5:=(h.wf.up x y (ns_ne0 g c) l).2
    cases h1 with
    |refl _=>omega
    |@step _ w _ h3 h4=>
     rw[l] at h3;have:y=w:=by have:=Nt h3;omega
     subst this;exact(h.wf.anc_le h4 h5).1
   have d:∀(B:List Int) (x y:Nat),B[x]? =some (y:Int)->(B.getD x 0).toNat=y:=fun B x y l=>by rw[Jj,l];simp
   have a4:meas at_ ns D'<meas at_ ns D:=by
    refine(sum_le _ _ ns (fun x c=>?_)).2 ?_
    ·obtain⟨y,y',h1,h2,h3⟩:=t x c;rw[d D x y h1,d D' x y' h2];rcases h3 with rfl|h3<;>omega
    ·by_cases a0:∃x∈ns,D'[x]?≠D[x]?
     ·obtain⟨x,c,a2⟩:=a0;obtain⟨y,y',h1,h2,h3⟩:=t x c;refine⟨x,c,?_⟩;rw[d D x y h1,d D' x y' h2];rcases h3 with rfl|h3
      ·exact absurd (h2.trans h1.symm) a2
      ·exact h3
     ·refine absurd (Oq fun i=>?_) a3
      by_cases hi:i∈ns
      ·by_cases he:D'[i]? =D[i]?
       ·exact he
       ·exact absurd ⟨i,hi,he⟩ a0
      ·exact c3 i hi
   obtain⟨k,D2,r1,r2,r3⟩:=IH (meas at_ ns D') Zo D' (Je _) u;exact⟨k+1,D2,⟨D',true,c1,.inr ⟨rfl,r1⟩⟩,r2,r3⟩
theorem chk (i:Ctx n ns preds f at_ E):∃k D,ip preds f ns k ((0:Int)::List.replicate (n-1) (-1)) D/\WF n ns at_ D/\(∀x∈0::ns,yj D x)/\∀x∈0::ns,∀z,Anc D x z↔Dom E z x:=by
 have hn:0<n:=i.lt 0 Zs
 have h0:WF n ns at_ ((0:Int)::List.replicate (n-1) (-1)):=by
  have l:∀(y:Nat) (w:Int),y≠0->((0:Int)::List.replicate (n-1) (-1))[y]? =some w->w=-1:=by
   intro y w d
   cases y with
   |zero=>exact absurd rfl d
   |succ y=>
    rw[List.getElem?_cons_succ,Nm]
    split
    ·intro e;exact(Nt e).symm
    ·simp
  refine⟨by simp;omega,rfl,fun x y g d=>?_,fun x v hv=>?_,fun x g=>?_⟩
  ·have:=l x _ g d;omega
  ·by_cases e:x=0
   ·subst e;exact .inr ⟨0,by simpa using hv.symm⟩
   ·exact .inl (l x v e hv)
  ·by_cases e:x=0
   ·simp[e]
   ·obtain⟨y,d⟩:=g;have:=l x _ e d;omega
 obtain⟨D',ch,c1,c2,c3,c4,c5,c6,c7⟩:=nh i ns _ false h0 (fun v hv=>hv) i.sorted (by
  intro x g hm;rcases Jq.1 g with rfl|g
  ·exact⟨h0.set0,fun v hv=>by rw[i.z];exact i.pos v hv⟩
  ·exact absurd g hm)
 have h1:=nr i c2 c5 c4
 have a0:∃k D,ip preds f ns k ((0:Int)::List.replicate (n-1) (-1)) D/\RI n ns at_ E D/\ow ns at_ E n ns D D:=by
  cases ch with
  |false=>
   obtain⟨_,rfl⟩:=c6 rfl
   exact⟨1,_,⟨_,false,c1,.inl ⟨rfl,rfl⟩⟩,h1,c4⟩
  |true=>
   obtain⟨k,D,r1,r2,r3⟩:=kO i _ D' (Je _) h1;exact⟨k+1,D,⟨D',true,c1,.inr ⟨rfl,r1⟩⟩,r2,r3⟩
 obtain⟨k,D,r1,r2,r3⟩:=a0;refine⟨k,D,r1,r2.wf,r2.all,fun x g z=>⟨fun ha=>?_,r2.S x g z⟩⟩
 have a1:∀ {y:Nat},Walk E (·≠z) 0 y->y∈0::ns/\¬Anc D y z:=by
  intro y u
  induction u with
  |refl h=>exact⟨by simp,fun ha=>h (r2.wf.anc0 ha).symm⟩
  |@snoc b c _ h2 h3 ih=>
   have m:=(i.eo _ _ h2).2;refine⟨m,fun ha=>?_⟩;rcases Jq.1 m with rfl|a2
   ·exact h3 (r2.wf.anc0 ha).symm
   ·obtain⟨E1,dn,e1,e2,e3,e4,e5,e6,e7⟩:=r3 c a2
    have j:∀y∈0::ns,E1[y]? =D[y]?:=fun y d=>by
     by_cases hl:at_ y<at_ c
     ·exact e2 y d hl
     ·exact e3 y Zo
    have t:=(i.eo _ _ h2).1;have o:yj E1 b:=by obtain⟨y,d⟩:=r2.all b t;exact⟨y,by rw[j b t];exact d⟩
    have h5:Anc D dn z:=by
     cases ha with
     |refl _=>exact absurd rfl h3
     |@step _ w _ h6 h7=>
      rw[e4] at h6;have:dn=w:=by have:=Nt h6;omega
      subst this;exact h7
    have h8:=(e7 z).1 (dK r2.wf h5 (r2.all dn (e1.sub dn e6)) (fun y d _=>(j y d).symm)) b h2 o;exact ih.2 (dK e1 h8 o (fun y d _=>j y d))
 exact fun u=>(a1 u).2 ha
end
def GE (g:List (List Nat))(u s:Nat):Prop:=s∈succ g u
def RE (g:List (List Nat))(u s:Nat):Prop:=Reach (GE g) u/\s∈succ g u
def wh (ord:List Nat)(x:Nat):Nat:=(atF ord ord.length (x:Int)).toNat
theorem nz(j:c.Nodup)(hi:c[i]? =some x):∀(m:Nat),i<m->m<=c.length->atF c m (x:Int)=(i:Int)
 |0,h,_=>by omega
 |m+1,h,hm=>by
  unfold atF;have hil:=(Jh.1 hi).1;have g:=(Jh.1 hi).2;have e:c.getD m 0=c[m]'Zo:=by rw[Jj,Jd Zo];rfl
  rw[e]
  by_cases d:m=i
  ·subst d;rw[g,if_pos rfl]
  ·rw[if_neg (by
    intro l;have k:x=c[m]'Zo:=Zo
    exact d ((List.getElem_inj (h₀:=by omega) (h₁:=hil) j).1 (k.symm.trans g.symm)))]
   exact nz j hi m Zo Zo
theorem vq(d:c.Nodup)(hi:c[i]? =some x):wh c x=i:=by
 unfold wh;rw[nz d hi _ (Jh.1 hi).1 (Je _)];simp
theorem posOf_f(d:c.Nodup)(g:x∈c):atF c c.length (x:Int)=(wh c x:Int):=by
 obtain⟨i,hi⟩:=Ny g;rw[vq d hi,nz d hi _ (Jh.1 hi).1 (Je _)]
theorem mr(d:c.Nodup):c.Pairwise (fun a b=>wh c a<wh c b):=by
 rw[List.pairwise_iff_getElem];intro i j hi h g;rw[vq d (Jd hi),vq d (Jd h)];exact g
theorem jR(d:c.Nodup){a b:Nat}(h: [a,b].Sublist c):wh c a<wh c b:=by
 have:=(mr d).sublist h
 simpa using this
theorem ou(g:c.Nodup){a b:Nat}(k:a∈c)(hb:b∈c)(h:wh c a=wh c b):a=b:=by
 obtain⟨i,hi⟩:=Ny k;obtain⟨j,d⟩:=Ny hb;rw[vq g hi,vq g d] at h;subst h;rw[hi] at d;exact Nt d
theorem nw {P:List (List Nat)}{n s v:Nat}(hv:v<P.length)(p:Nat):p∈(xS n P s).getD v []↔p∈P.getD v []∨(p=n/\v=s):=by
 unfold xS;rw[Jj,Ov]
 by_cases e:s=v
 ·subst e;rw[if_pos rfl,if_pos hv];simp
 ·rw[if_neg e,<-Jj];simp[Ne.symm e]
theorem tG (n:Nat)(P:List (List Nat))(s:Nat):(xS n P s).length=P.length:=by simp[xS]
theorem ml (n:Nat):∀(l:List Nat) (P:List (List Nat)) (v:Nat),v<P.length->∀p,p∈(l.foldl (xS n) P).getD v []↔p∈P.getD v []∨(p=n/\v∈l)
 | [],P,v,_,p=>by simp
 |s::l,P,v,hv,p=>by
  rw[Qk,ml n l _ v (by rw[tG];exact hv),nw hv];simp only[Jq];constructor
  ·rintro((h|⟨h1,h2⟩)|⟨h1,h2⟩)
   ·exact .inl h
   ·exact .inr ⟨h1,.inl h2⟩
   ·exact .inr ⟨h1,.inr h2⟩
  ·rintro(h|⟨h1,h2|h2⟩)
   ·exact .inl (.inl h)
   ·exact .inl (.inr ⟨h1,h2⟩)
   ·exact .inr ⟨h1,h2⟩
theorem t9 (n:Nat):∀(l:List Nat) (P:List (List Nat)),(l.foldl (xS n) P).length=P.length
 | [],_=>rfl
 |s::l,P=>by rw[Qk,t9 n l,tG]
theorem rT (g:List (List Nat)):∀(ord:List Nat) (P:List (List Nat)) (v:Nat),v<P.length->∀p,p∈(ord.foldl (yh g) P).getD v []↔p∈P.getD v []∨(p∈ord/\v∈succ g p)
 | [],P,v,_,p=>by simp
 |n::ord,P,v,hv,p=>by
  rw[Qk,rT g ord _ v (by unfold yh;rw[t9];exact hv)];unfold yh;rw[ml n _ P v hv];simp only[Jq];constructor
  ·rintro((h|⟨h1,h2⟩)|⟨h1,h2⟩)
   ·exact .inl h
   ·subst h1;exact .inr ⟨.inl rfl,h2⟩
   ·exact .inr ⟨.inr h1,h2⟩
  ·rintro(h|⟨h1|h1,h2⟩)
   ·exact .inl (.inl h)
   ·subst h1;exact .inl (.inr ⟨rfl,h2⟩)
   ·exact .inr ⟨h1,h2⟩
theorem mj (g:List (List Nat))(ord:List Nat):(un g ord).length=g.length:=by
 have:∀(ord:List Nat) (P:List (List Nat)),(ord.foldl (yh g) P).length=P.length:=by
  intro ord
  induction ord with
  |nil=>intros;rfl
  |cons a l ih=>intro P;rw[Qk,ih];unfold yh;rw[t9]
 unfold un;rw[this];simp
theorem lV{v:Nat}{pr:List Nat}(h:(un g c)[v]? =some pr)(p:Nat):p∈pr↔p∈c/\v∈succ g p:=by
 have hv:=(Jh.1 h).1;rw[mj] at hv;have:=rT g c (List.replicate g.length []) v (by simpa using hv) p
 have e:(List.foldl (yh g) (List.replicate g.length []) c).getD v []=pr:=by
  rw[Jj];unfold un at h;rw[h];rfl
 rw[e] at this;rw[this];simp[Jj,Nm];intro h1
 split at h1<;>simp at h1
structure OrdF (g:List (List Nat)) (ns:List Nat):Prop where
 is:tV g (0::ns)
 eq:vD g=0::ns
 nodup:(0::ns).Nodup
 lt:∀x∈0::ns,x<g.length
 mem:∀x,x∈0::ns↔Reach (GE g) x
 fwd:∀x∈ns,∃p,RE g p x/\wh (0::ns) p<wh (0::ns) x
 back:∀x s,RE g x s->wh (0::ns) x<wh (0::ns) s∨Desc g (ae2 g) s x
 sub:∀a b,[a,b].Sublist (ae2 g)->wh (0::ns) b<wh (0::ns) a
theorem adR(hv:zw g):∃ns,OrdF g ns:=by
 obtain⟨L,h1,h2,h3,k,hk⟩:=post_ok hv;have m:vD g=0::L.reverse:=by unfold vD;rw[h1];simp
 have hr:(0::L.reverse).reverse=ae2 g:=by rw[h1];simp
 have hnd:(0::L.reverse).Nodup:=by rw[<-m];unfold vD;exact List.pairwise_reverse.2 (h2.imp (fun h=>Ne.symm h))
 have d:∀x,x∈0::L.reverse↔x∈ae2 g:=fun x=>by rw[<-hr];exact List.mem_reverse.symm
 have c:∀a b,[a,b].Sublist (ae2 g)->wh (0::L.reverse) b<wh (0::L.reverse) a:=by
  intro a b t;refine jR hnd ?_;have:=List.reverse_sublist.2 t;rw[<-m]
  simpa[vD] using this
 have l:∀ {a x:Nat},Desc g (ae2 g) a x->Walk (GE g) (fun _=>True) 0 a->Walk (GE g) (fun _=>True) 0 x:=by
  intro a x u
  induction u with
  |refl a=>exact id
  |step h4 _ _ ih=>exact fun j=>ih (.snoc j h4 trivial)
 have i:∀x,x∈0::L.reverse↔Reach (GE g) x:=by
  intro x;rw[d];constructor
  ·exact fun hx=>l (h3 x hx).2.1 (.refl trivial)
  ·intro j;unfold Reach at j
   induction j with
   |refl _=>rw[h1];simp
   |snoc _ h4 _ ih=>exact((h3 _ ih).2.2 _ h4).1
 refine⟨L.reverse,⟨⟨k,by rw[hr];exact hk⟩,m,hnd,fun x hx=>(h3 x ((d x).1 hx)).1,i,fun x hx=>?_,fun x s hxs=>?_,c⟩⟩
 ·have o:x≠0:=by rintro rfl;exact(Qt.1 hnd).1 hx
  rcases(h3 x ((d x).1 (by simp[hx]))).2.1.last with h4|⟨p,h4,h5,h6⟩
  ·exact absurd h4.symm o
  ·exact⟨p,⟨l h4 (.refl trivial),h5⟩,c x p h6⟩
 ·rcases((h3 x ((d x).1 ((i x).2 hxs.1))).2.2 s hxs.2).2 with h4|h4
  ·exact .inl (c s x h4)
  ·exact .inr h4
theorem OrdF.ctx(h:OrdF g ns):Ctx g.length ns (un g (0::ns)) (atF (0::ns) (ns.length+1)) (wh (0::ns)) (RE g):=by
 have d:wh (0::ns) 0=0:=vq h.nodup (i:=0) rfl;have c:=List.pairwise_cons.1 (mr h.nodup);refine⟨h.lt,d,c.2,fun x hx=>by have:=c.1 x hx;omega,fun x hx y hy=>ou h.nodup hx hy,fun x hx=>posOf_f h.nodup hx,mj _ _,fun v pr hpr p=>?_,fun u s hus=>⟨(h.mem u).2 hus.1,(h.mem s).2 (.snoc hus.1 hus.2 trivial)⟩,h.fwd⟩;rw[lV hpr,h.mem];rfl
structure DomF (g:List (List Nat)) (ns:List Nat) (D:List Int):Prop where
 of:eL g ns D
 wf:WF g.length ns (wh (0::ns)) D
 all:∀x∈0::ns,yj D x
 anc:∀x∈0::ns,∀z,Anc D x z↔Dom (GE g) z x
theorem re_dom{z:Nat}:Dom (RE g) z x↔Dom (GE g) z x:=by
 have h1:∀ {y:Nat},Walk (GE g) (·≠z) 0 y->Walk (RE g) (·≠z) 0 y:=by
  intro y c
  induction c with
  |refl h=>exact .refl h
  |snoc h1 h2 h3 ih=>exact .snoc ih ⟨h1.imp (fun _ _=>trivial),h2⟩ h3
 exact⟨fun h c=>h (h1 c),fun h c=>h (c.mono (fun _ _ _ _ h=>h.2) (fun _ h=>h)).2⟩
theorem OrdF.dom(h:OrdF g ns):∃D,DomF g ns D:=by
 obtain⟨k,D,h1,h2,h3,c⟩:=chk h.ctx;exact⟨D,⟨k,h1⟩,h2,h3,fun x hx z=>(c x hx z).trans re_dom⟩
theorem sget{l:List Bool}(h:x<l.length):l[x]? =some true∨l[x]? =some false:=by
 rw[Jd h];cases l[x]<;>simp
theorem rL (out:Int):∀(l:List Nat) (st:List Bool×List Nat),(∀s∈l,s<st.1.length)->
 (l.foldl (aeY out) st).1.length=st.1.length/\(∀x:Nat,(l.foldl (aeY out) st).1[x]? =some true↔st.1[x]? =some true∨(x∈l/\(x:Int)≠out))/\
 (∀y:Nat,y∈(l.foldl (aeY out) st).2↔y∈st.2∨(y∈l/\(y:Int)≠out/\st.1[y]? =some false))/\(l.foldl (aeY out) st).2.length+wa (l.foldl (aeY out) st).1=st.2.length+wa st.1
 | [],st,_=>⟨rfl,fun x=>by simp,fun y=>by simp,rfl⟩
 |s::l,st,hl=>by
  have hsl:=hl s Zs;rw[Qk]
  by_cases h:(s:Int)≠out/\st.1[s]? =some false
  ·have e:aeY out st s=(st.1.set s true,st.2++ [s]):=by unfold aeY;rw[if_pos h]
   rw[e];obtain⟨h1,h2,h3,i⟩:=rL out l (st.1.set s true,st.2++ [s]) (fun t ht=>by simpa using hl t (by simp[ht]))
   dsimp only at h1 h2 h3 i
   have m:=vm h.2;refine⟨by rw[h1];simp,fun x=>?_,fun y=>?_,by rw[i];simp;omega⟩
   ·rw[h2,Ov]
    by_cases j:s=x
    ·subst j;rw[if_pos rfl,if_pos hsl];simp[h.1]
    ·rw[if_neg j];constructor
     ·rintro(c|⟨c,d⟩)
      ·exact .inl c
      ·exact .inr ⟨by simp[c],d⟩
     ·rintro(c|⟨c,d⟩)
      ·exact .inl c
      ·rcases Jq.1 c with c|c
       ·exact absurd c.symm j
       ·exact .inr ⟨c,d⟩
   ·rw[h3,Jl,Jo,Ov]
    by_cases g:s=y
    ·subst g;rw[if_pos rfl,if_pos hsl];simp[h.1,h.2]
    ·rw[if_neg g];constructor
     ·rintro((c|c)|⟨c,d⟩)
      ·exact .inl c
      ·exact absurd c.symm g
      ·exact .inr ⟨by simp[c],d⟩
     ·rintro(c|⟨c,d⟩)
      ·exact .inl (.inl c)
      ·rcases Jq.1 c with c|c
       ·exact absurd c.symm g
       ·exact .inr ⟨c,d⟩
  ·have e:aeY out st s=st:=by unfold aeY;rw[if_neg h]
   rw[e];obtain⟨h1,h2,h3,i⟩:=rL out l st (fun t ht=>hl t (by simp[ht]));have hs:(s:Int)≠out->st.1[s]? =some true:=fun ho=>(sget hsl).resolve_right (fun hf=>h ⟨ho,hf⟩)
   refine⟨h1,fun x=>?_,fun y=>?_,i⟩
   ·rw[h2];constructor
    ·rintro(c|⟨c,d⟩)
     ·exact .inl c
     ·exact .inr ⟨by simp[c],d⟩
    ·rintro(c|⟨c,d⟩)
     ·exact .inl c
     ·rcases Jq.1 c with rfl|c
      ·exact .inl (hs d)
      ·exact .inr ⟨c,d⟩
   ·rw[h3];constructor
    ·rintro(c|⟨c,d⟩)
     ·exact .inl c
     ·exact .inr ⟨by simp[c],d⟩
    ·rintro(c|⟨c,d,k⟩)
     ·exact .inl c
     ·rcases Jq.1 c with rfl|c
      ·exact absurd ⟨d,k⟩ h
      ·exact .inr ⟨c,d,k⟩
def sO (g:List (List Nat))(out:Int):Nat->List Bool->List Nat->List Bool
 |0,seen,_=>seen
 |f+1,seen,work=>match work.getLast? with
  |none=>seen
  |some n=>sO g out f ((succ g n).foldl (aeY out) (seen,work.dropLast)).1 ((succ g n).foldl (aeY out) (seen,work.dropLast)).2
def ie (g:List (List Nat))(fr:Nat)(out:Int):List Bool:=
 if(fr:Int)=out then List.replicate g.length false else sO g out (g.length+1) ((List.replicate g.length false).set fr true) [fr]
theorem pK(hv:zw g)(out:Int):∀(f:Nat) (seen:List Bool) (work:List Nat),seen.length=g.length->work.length+wa seen<=f->∃k,aaj g out k seen work (sO g out f seen work)
 |0,seen,work,_,h=>⟨0,Nz Zo,rfl⟩
 |f+1,seen,work,hs,h=>by
  rcases List.eq_nil_or_concat work with rfl|⟨st,n,rfl⟩
  ·exact⟨0,rfl,rfl⟩
  ·obtain⟨h1,_,_,h4⟩:=rL out (succ g n) (seen,st) (fun s hm=>by rw[hs];exact aeK hv hm);simp only[List.concat_eq_append,Jk,Ju] at h h1 h4;obtain⟨k,hk⟩:=pK hv out f ((succ g n).foldl (aeY out) (seen,st)).1 ((succ g n).foldl (aeY out) (seen,st)).2 (h1.trans hs) Zo;refine⟨k+1,st,n,by simp,?_⟩
   have e:sO g out (f+1) seen (st.concat n)=sO g out f ((succ g n).foldl (aeY out) (seen,st)).1 ((succ g n).foldl (aeY out) (seen,st)).2:=by
    simp[sO]
   rw[e];exact hk
theorem du(hv:zw g)(fr:Nat)(c:fr<g.length)(out:Int):iK g fr out (ie g fr out):=by
 unfold iK ie
 by_cases h:(fr:Int)=out
 ·rw[if_pos h];exact .inl ⟨h,rfl⟩
 ·rw[if_neg h];have d:=vm (seen:=List.replicate g.length false) (n:=fr) (by simp[c]);have i:wa (List.replicate g.length false)=g.length:=by simp[wa]
  exact .inr ⟨h,pK hv out _ _ _ Zs (by simp only[Ju];omega)⟩
theorem pQ(hv:zw g)(out:Int)(fr:Nat):∀(k:Nat) (seen:List Bool) (work:List Nat) (F:List Bool),aaj g out k seen work F->seen.length=g.length->
 (∀x∈work,seen[x]? =some true)->(∀x:Nat,seen[x]? =some true->Walk (GE g) (fun y=>(y:Int)≠out) fr x)->(∀x s:Nat,seen[x]? =some true->x ∉ work->s∈succ g x->(s:Int)≠out->seen[s]? =some true)->seen[fr]? =some true->
 F.length=g.length/\∀x:Nat,F[x]? =some true↔Walk (GE g) (fun y=>(y:Int)≠out) fr x
 |0,seen,work,F,h,hlen,h1,h2,h3,h4=>by
  obtain⟨rfl,rfl⟩:=h;refine⟨hlen,fun x=>⟨h2 x,fun hw=>?_⟩⟩
  induction hw with
  |refl _=>exact h4
  |snoc _ h5 h6 ih=>exact h3 _ _ ih Zs h5 h6
 |k+1,seen,work,F,h,hlen,h1,h2,h3,h4=>by
  obtain⟨st,n,rfl,h⟩:=h;obtain⟨p1,p2,p3,_⟩:=rL out (succ g n) (seen,st) (fun s hm=>by rw[hlen];exact aeK hv hm)
  dsimp only at p1 p2 p3
  refine pQ hv out fr k _ _ F h (p1.trans hlen) ?_ ?_ ?_ ((p2 fr).2 (.inl h4))
  ·intro x d;rcases(p3 x).1 d with h5|⟨h5,h6,_⟩
   ·exact(p2 x).2 (.inl (h1 x (by simp[h5])))
   ·exact(p2 x).2 (.inr ⟨h5,h6⟩)
  ·intro x d;rcases(p2 x).1 d with h5|⟨h5,h6⟩
   ·exact h2 x h5
   ·exact .snoc (h2 n (h1 n Zs)) h5 h6
  ·intro x s d c hs ho;rcases(p2 x).1 d with h5|⟨h5,h6⟩
   ·by_cases hm:x∈st++ [n]
    ·rcases Jl.1 hm with hm|hm
     ·exact absurd ((p3 x).2 (.inl hm)) c
     ·simp at hm;subst hm;exact(p2 s).2 (.inr ⟨hs,ho⟩)
    ·exact(p2 s).2 (.inl (h3 x s h5 hm hs ho))
   ·rcases sget (l:=seen) (x:=x) (by rw[hlen];exact aeK hv h5) with h7|h7
    ·by_cases hm:x∈st++ [n]
     ·rcases Jl.1 hm with hm|hm
      ·exact absurd ((p3 x).2 (.inl hm)) c
      ·simp at hm;subst hm;exact(p2 s).2 (.inr ⟨hs,ho⟩)
     ·exact(p2 s).2 (.inl (h3 x s h7 hm hs ho))
    ·exact absurd ((p3 x).2 (.inr ⟨h5,h6,h7⟩)) c
theorem nR(hv:zw g)(c:fr<g.length){out:Int}{F:List Bool}(h:iK g fr out F):
 F.length=g.length/\∀x:Nat,F[x]? =some true↔Walk (GE g) (fun y=>(y:Int)≠out) fr x:=by
 rcases h with⟨h1,rfl⟩|⟨h1,k,hk⟩
 ·refine⟨by simp,fun x=>⟨fun h2=>?_,fun h2=>absurd h1 h2.first⟩⟩;rw[Nm] at h2
  split at h2<;>simp at h2
 ·refine pQ hv out fr k _ _ F hk Zs (fun x hx=>by simp at hx;subst hx;simp[c]) (fun x hx=>?_) (fun x s hx hxw=>?_) (by simp[c])
  ·by_cases e:fr=x
   ·subst e;exact .refl h1
   ·rw[Ns e,Nm] at hx
    split at hx<;>simp at hx
  ·have e:fr≠x:=fun e=>hxw (by simp[e])
   rw[Ns e,Nm] at hx
   split at hx<;>simp at hx
def nc (g:List (List Nat))(fr:Nat)(out:Int)(x:Nat):Bool:=(ie g fr out).getD x false
theorem nG(hv:zw g)(c:fr<g.length)(out:Int)(x:Nat):nc g fr out x=true↔Walk (GE g) (fun y=>(y:Int)≠out) fr x:=by
 rw[<-(nR hv c (du hv fr c out)).2];unfold nc;rw[Jj]
 cases (ie g fr out)[x]? with
 |none=>simp
 |some b=>cases b<;>simp
def wE (g:List (List Nat))(d x:Nat):Bool:=nc g 0 (-1) d && nc g 0 (-1) x && (decide (d=x)||!nc g 0 d x)
theorem mP(hv:zw g)(x:Nat):nc g 0 (-1) x=true↔Reach (GE g) x:=by
 rw[nG hv hv.1];exact⟨fun h=>h.imp (fun _ _=>trivial),fun h=>h.imp (fun a _=>by omega)⟩
theorem yO(hv:zw g)(d x:Nat):wE g d x=true↔Reach (GE g) d/\Reach (GE g) x/\Dom (GE g) d x:=by
 unfold wE;rw[Jm,Jm,mP hv,mP hv,Bool.or_eq_true,decide_eq_true_eq,Bool.not_eq_true']
 have h1:nc g 0 (d:Int) x=false↔Dom (GE g) d x:=by
  unfold Dom;rw[<-Bool.not_eq_true,nG hv hv.1];exact not_congr ⟨fun h=>h.imp (fun a h=>by omega),fun h=>h.imp (fun a h=>by omega)⟩
 rw[h1];constructor
 ·rintro⟨⟨h2,h3⟩,rfl|c⟩
  ·exact⟨h2,h3,rF _ _⟩
  ·exact⟨h2,h3,c⟩
 ·exact fun⟨h2,h3,c⟩=>⟨⟨h2,h3⟩,.inr c⟩
def oP (g:List (List Nat))(x:Nat)(best:Int)(d:Nat):Int:=if d≠x/\wE g d x=true/\(best<0∨wE g best.toNat d=true) then(d:Int) else best
def pP (g:List (List Nat))(x:Nat):Int:=(List.range g.length).foldl (oP g x) (-1)
def wQ (g:List (List Nat)):List Int:=(List.range g.length).map (pP g)
theorem anc_lin{D:List Int}{a b:Nat}(c:Anc D x a)(hb:Anc D x b):Anc D a b∨Anc D b a:=by
 induction c with
 |refl _=>exact .inl hb
 |@step x y a h1 h2 ih=>
  cases hb with
  |refl _=>exact .inr (.step h1 h2)
  |@step _ w _ h3 h4=>
   rw[h1] at h3;have:y=w:=by have:=Nt h3;omega
   subst this;exact ih h4
theorem DomF.dom_lin{D:List Int}(c:DomF g ns D){a b:Nat}(d:x∈0::ns)(m:Dom (GE g) a x)(hb:Dom (GE g) b x):Dom (GE g) a b∨Dom (GE g) b a:=by
 have j:=(c.anc x d a).2 m;have i:=(c.anc x d b).2 hb;have l:=c.wf.sub a (c.wf.anc_le j (c.all x d)).2;have k:=c.wf.sub b (c.wf.anc_le i (c.all x d)).2;rcases anc_lin j i with h|h
 ·exact .inr ((c.anc a l b).1 h)
 ·exact .inl ((c.anc b k a).1 h)
theorem DomF.dom_mem{D:List Int}(c:DomF g ns D){a:Nat}(h:x∈0::ns)(i:Dom (GE g) a x):a∈0::ns/\wh (0::ns) a<=wh (0::ns) x:=by
 have d:=(c.anc x h a).2 i;exact⟨c.wf.sub a (c.wf.anc_le d (c.all x h)).2,c.wf.le d (c.all x h)⟩
theorem ri(hv:zw g){D:List Int}(k:OrdF g ns)(l:DomF g ns D)(x:Nat):∀(m:Nat),
 ((List.range m).foldl (oP g x) (-1)=-1/\∀d<m,¬(d≠x/\wE g d x=true))∨
 ∃b:Nat,(List.range m).foldl (oP g x) (-1)=(b:Int)/\b≠x/\wE g b x=true/\∀d<m,d≠x->wE g d x=true->Dom (GE g) d b
 |0=> .inl ⟨rfl,fun d hd=>by omega⟩
 |m+1=>by
  rw[List.range_succ,List.foldl_append,Qk,List.foldl_nil];rcases ri hv k l x m with⟨h1,h2⟩|⟨b,h1,h2,h3,h4⟩
  ·rw[h1]
   by_cases hm:m≠x/\wE g m x=true
   ·refine .inr ⟨m,by unfold oP;rw[if_pos ⟨hm.1,hm.2,.inl Zo⟩],hm.1,hm.2,fun d hd hdx hdd=>?_⟩
    by_cases e:d=m
    ·subst e;exact rF _ _
    ·exact absurd ⟨hdx,hdd⟩ (h2 d Zo)
   ·refine .inl ⟨by unfold oP;rw[if_neg (fun h=>hm ⟨h.1,h.2.1⟩)],fun d hd=>?_⟩
    by_cases e:d=m
    ·subst e;exact hm
    ·exact h2 d Zo
  ·rw[h1];have hb:=(yO hv b x).1 h3;have o:x∈0::ns:=(k.mem x).2 hb.2.1
   by_cases hm:m≠x/\wE g m x=true
   ·have i:=(yO hv m x).1 hm.2
    by_cases c:wE g b m=true
    ·have j:=(yO hv b m).1 c;refine .inr ⟨m,by unfold oP;rw[if_pos ⟨hm.1,hm.2,.inr (by simpa using c)⟩],hm.1,hm.2,fun d hd hdx hdd=>?_⟩
     by_cases e:d=m
     ·subst e;exact rF _ _
     ·exact oZ (h4 d Zo hdx hdd) j.2.2
    ·refine .inr ⟨b,by unfold oP;rw[if_neg (fun h=>by rcases h.2.2 with h|h;omega;exact c (by simpa using h))],h2,h3,fun d hd hdx hdd=>?_⟩
     by_cases e:d=m
     ·subst e;rcases l.dom_lin o hb.2.2 i.2.2 with h|h
      ·exact absurd ((yO hv b d).2 ⟨hb.1,i.1,h⟩) c
      ·exact h
     ·exact h4 d Zo hdx hdd
   ·refine .inr ⟨b,by unfold oP;rw[if_neg (fun h=>hm ⟨h.1,h.2.1⟩)],h2,h3,fun d hd hdx hdd=>?_⟩
    by_cases e:d=m
    ·subst e;exact absurd ⟨hdx,hdd⟩ hm
    ·exact h4 d Zo hdx hdd
theorem idom_eq(hv:zw g){D:List Int}(i:OrdF g ns)(c:DomF g ns D):D.set 0 (-1)=wQ g:=by
 apply Oq;intro x
 by_cases hx:x<g.length
 ·have hr:(wQ g)[x]? =some (pP g x):=by unfold wQ;rw[Jr,Oh hx];rfl
  rw[hr];have o:x<D.length:=by rw[c.wf.len];exact hx
  have hf:=ri hv i c x g.length
  by_cases u:x=0
  ·subst u;rw[Nn o];rcases hf with⟨h1,_⟩|⟨b,h1,h2,h3,_⟩
   ·exact congrArg some h1.symm
   ·exact absurd (vI ((yO hv b 0).1 h3).2.2) h2
  ·rw[Ns (Ne.symm u)]
   by_cases d:x∈0::ns
   ·obtain⟨y,j⟩:=c.all x d;obtain⟨a2,a0⟩:=c.wf.up x y u j;have h:=c.wf.sub y a0;have l:y≠x:=fun e=>by rw[e] at a2;omega
    have a1:Dom (GE g) y x:=(c.anc x d y).1 (.step j (.refl _));have m:wE g y x=true:=(yO hv y x).2 ⟨(i.mem y).1 h,(i.mem x).1 d,a1⟩;rcases hf with⟨_,h2⟩|⟨b,h1,h2,h3,h4⟩
    ·exact absurd ⟨l,m⟩ (h2 y (i.lt y h))
    ·have hb:=(yO hv b x).1 h3;have h5:=h4 y (i.lt y h) l m;have h6:=(c.anc x d b).2 hb.2.2
     have h7:Anc D y b:=by
      cases h6 with
      |refl _=>exact absurd rfl h2
      |@step _ w _ k h9=>
       rw[j] at k;have:y=w:=by have:=Nt k;omega
       subst this;exact h9
     have k:=oT h5 ((c.anc y h b).1 h7) ((i.mem y).1 h);subst k;rw[j];exact congrArg some h1.symm
   ·obtain⟨w,t⟩:∃w,D[x]? =some w:=⟨_,Jd o⟩
    rw[t];rcases c.wf.neg x w t with rfl|⟨y,rfl⟩
    ·rcases hf with⟨h1,_⟩|⟨b,h1,h2,h3,_⟩
     ·exact congrArg some h1.symm
     ·exact absurd ((i.mem x).2 ((yO hv b x).1 h3).2.1) d
    ·exact absurd (c.wf.sub x ⟨y,t⟩) d
 ·rw[Of (by simp[c.wf.len];omega),Of (by simp[wQ];omega)]
theorem re_lt(hv:zw g)(h:Reach (GE g) x):x<g.length:=by
 unfold Reach at h
 cases h with
 |refl _=>exact hv.1
 |snoc _ h2 _=>exact aeK hv h2
def Ranked (E:Nat->Nat->Prop):Prop:=∃rank:Nat->Nat,∀u s,E u s->rank u<rank s∨Dom E s u
def eget (ed:List (List Bool))(p s:Nat):Bool:=(ed.getD p []).getD s false
def Sq (size:Nat)(ed:List (List Bool)):Prop:=ed.length=size/\∀p,p<size->(ed.getD p []).length=size
def EE (size:Nat)(ed:List (List Bool))(u s:Nat):Prop:=u<size/\s<size/\eget ed u s=true
structure RS (g:List (List Nat)) (size:Nat) (al:List Bool) (ed:List (List Bool)) (left:Int):Prop where
 sq:Sq size ed
 len:al.length=size
 z:al.getD 0 false=true
 ends:∀u s,EE size ed u s->al.getD u false=true/\al.getD s false=true/\u≠s
 re:∀x,al.getD x false=true->Reach (EE size ed) x
 cnt:left=(al.count true:Int)
 q:Ranked (EE size ed)↔Ranked (RE g)
section
variable {g ex:List (List Nat)}
theorem cA(hv:zw g)(h:wE g d x=true):d<g.length/\x<g.length:=by
 rw[yO hv] at h;exact⟨re_lt hv h.1,re_lt hv h.2.1⟩
end
def IdomOf (g:List (List Nat))(x:Nat)(b:Int):Prop:=
 (b=-1/\∀d,d≠x->wE g d x=true->False)∨∃c:Nat,b=(c:Int)/\c≠x/\wE g c x=true/\∀d,d≠x->wE g d x=true->Dom (GE g) d c
theorem idomOf(hv:zw g)(x:Nat):IdomOf g x (pP g x):=by
 obtain⟨ns,h⟩:=adR hv;obtain⟨D,i⟩:=h.dom;rcases ri hv h i x g.length with⟨h1,h2⟩|⟨b,h1,h2,h3,c⟩
 ·exact .inl ⟨h1,fun d h3 c=>h2 d (cA hv c).1 ⟨h3,c⟩⟩
 ·exact .inr ⟨b,h1,h2,h3,fun d h5 h6=>c d (cA hv h6).1 h5 h6⟩
end Go.Proofs.YtoahcpkibpomcaaGreat
