/- Part of a proof. -/
import Derived.Test.YtoahcpkibpomcaaGreatGMathw
set_option linter.all false
namespace Go.Proofs.YtoahcpkibpomcaaGreat
variable {g:List (List Nat)}
def eset (ed:List (List Bool))(p s:Nat)(b:Bool):List (List Bool):=ed.set p ((ed.getD p []).set s b)
section
variable {g h:List (List Nat)}
theorem aif {l m:List Nat}(hl:l.Nodup)(hm:m.Nodup)(h:∀x,x∈l↔x∈m):l.length=m.length:=
 ((List.perm_ext_iff_of_nodup hl hm).2 h).length_eq
end
theorem afG:∀(k k':Nat) (seen:List Bool) (stk:List (Nat×Nat)) (post F F':List Nat),kV g k seen stk post F->kV g k' seen stk post F'->F=F'
 |0,0,_,_,_,_,_,h,h'=>by rw[<-h.2,<-h'.2]
 |0,k'+1,_,_,_,_,_,h,h'=>by obtain⟨st,u,j,e,_⟩:=h';rw[h.1] at e;simp at e
 |k+1,0,_,_,_,_,_,h,h'=>by obtain⟨st,u,j,e,_⟩:=h;rw[h'.1] at e;simp at e
 |k+1,k'+1,seen,stk,post,F,F',h,h'=>by
  obtain⟨st,u,j,e,h⟩:=h;obtain⟨st',u',j',e',h'⟩:=h';rw[e] at e';obtain⟨rfl,e2⟩:=List.append_inj' e' rfl;simp only[List.cons.injEq,Prod.mk.injEq,and_true] at e2;obtain⟨rfl,rfl⟩:=e2;rcases h with⟨a1,a2⟩|⟨s,a1,a2,a3⟩|⟨s,a1,a2,a3⟩<;>rcases h' with⟨b1,b2⟩|⟨s',b1,b2,b3⟩|⟨s',b1,b2,b3⟩
  ·exact afG k k' _ _ _ _ _ a2 b2
  ·rw[Of Zo] at b1;cases b1
  ·rw[Of Zo] at b1;cases b1
  ·rw[Of Zo] at a1;cases a1
  ·exact afG k k' _ _ _ _ _ a3 b3
  ·rw[a1] at b1;cases b1;rw[a2] at b2;cases b2
  ·rw[Of Zo] at a1;cases a1
  ·rw[a1] at b1;cases b1;rw[a2] at b2;cases b2
  ·rw[a1] at b1;cases b1;exact afG k k' _ _ _ _ _ a3 b3
theorem agX(hv:zw g){c:List Nat}(h:tV g c):c=vD g:=by
 obtain⟨ns,i⟩:=adR hv;obtain⟨k,hk⟩:=h;obtain⟨k',d⟩:=i.is;have:=afG k k' _ _ _ _ _ hk d;rw[i.eq,<-List.reverse_reverse c,this,List.reverse_reverse]
structure Ren (g h:List (List Nat)) (to:Nat->Nat):Prop where
 vg:zw g
 len:h.length=g.length
 lt:∀x,x<g.length->to x<g.length
 inj:∀x y,x<g.length->y<g.length->to x=to y->x=y
 surj:∀a,a<g.length->∃x,x<g.length/\to x=a
 zero:to 0=0
 succ:∀u,u<g.length->succ h (to u)=(succ g u).map to
section
variable {g h:List (List Nat)} {to:Nat->Nat}
theorem Ren.vh (r:Ren g h to):zw h:=by
 refine⟨by rw[r.len];exact r.vg.1,fun l hl s hs=>?_⟩;obtain⟨a,d⟩:=Ny hl;obtain⟨u,j,rfl⟩:=r.surj a (by rw[<-r.len];exact(Jh.1 d).1);have c:s∈Go.Proofs.YtoahcpkibpomcaaGreat.succ h (to u):=by unfold Go.Proofs.YtoahcpkibpomcaaGreat.succ;rw[Jj,d];exact hs
 rw[r.succ u j] at c;obtain⟨x,i,rfl⟩:=Nu.1 c;rw[r.len];exact r.lt x (aeK r.vg i)
theorem Ren.drun (r:Ren g h to):∀(k:Nat) (seen seen':List Bool) (stk:List (Nat×Nat)) (post F:List Nat),seen.length=g.length->seen'.length=g.length->(∀x,x<g.length->seen'[to x]? =seen[x]?)->(∀p∈stk,p.1<g.length)->
 kV g k seen stk post F->kV h k seen' (stk.map fun p=>(to p.1,p.2)) (post.map to) (F.map to)
 |0,_,_,_,_,_,_,_,_,_,hd=>by obtain⟨rfl,rfl⟩:=hd;exact⟨rfl,rfl⟩
 |k+1,seen,seen',stk,post,F,hl,hl',hx,hs,hd=>by
  obtain⟨st,u,j,rfl,hd⟩:=hd;have l:u<g.length:=hs (u,j) Zs;have d:∀p∈st,p.1<g.length:=fun p hp=>hs p (by simp[hp])
  refine⟨st.map fun p=>(to p.1,p.2),to u,j,by simp,?_⟩;rw[r.succ u l];rcases hd with⟨a1,a2⟩|⟨s,a1,a2,a3⟩|⟨s,a1,a2,a3⟩
  ·refine .inl ⟨by simpa using a1,?_⟩;have:=r.drun k seen seen' st (post++ [u]) F hl hl' hx d a2
   simpa using this
  ·have c:s<g.length:=aeK r.vg (Ji a1);refine .inr (.inl ⟨to s,by rw[Jr,a1];rfl,by rw[hx s c];exact a2,?_⟩);have:=r.drun k seen seen' (st++ [(u,j+1)]) post F hl hl' hx ?_ a3
   ·simpa using this
   ·intro p hp;rcases Jl.1 hp with hp|hp
    ·exact d p hp
    ·simp at hp;subst hp;exact l
  ·have c:s<g.length:=aeK r.vg (Ji a1);refine .inr (.inr ⟨to s,by rw[Jr,a1];rfl,by rw[hx s c];exact a2,?_⟩);have:=r.drun k (seen.set s true) (seen'.set (to s) true) (st++ [(u,j+1)]++ [(s,0)]) post F (by simpa using hl) (by simpa using hl') ?_ ?_ a3
   ·simpa using this
   ·intro x i
    by_cases e:s=x
    ·subst e;rw[Nn (by rw[hl'];exact r.lt _ c),Nn (by rw[hl];exact c)]
    ·rw[Ns (fun e2=>e (r.inj s x c i e2)),Ns e];exact hx x i
   ·intro p hp;rcases Jl.1 hp with hp|hp
    ·rcases Jl.1 hp with hp|hp
     ·exact d p hp
     ·simp at hp;subst hp;exact l
    ·simp at hp;subst hp;exact c
theorem Ren.order (r:Ren g h to):vD h=(vD g).map to:=by
 obtain⟨ns,i⟩:=adR r.vg;refine(agX r.vh ?_).symm;obtain⟨k,hk⟩:=i.is;refine⟨k,?_⟩
 have j:∀x,x<g.length->((List.replicate h.length false).set 0 true)[to x]? =((List.replicate g.length false).set 0 true)[x]?:=by
  intro x c;have d:=r.lt x c
  by_cases e:x=0
  ·subst e;rw[r.zero,Nn (by rw[Qr,r.len];exact c),Nn (by rw[Qr];exact c)]
  ·have e2:0≠to x:=fun e2=>e (r.inj x 0 c r.vg.1 (by rw[r.zero];exact e2.symm))
   rw[Ns e2,Ns (Ne.symm e),Nm,Nm,if_pos c,if_pos (by rw[r.len];exact d)]
 have:=r.drun k _ ((List.replicate h.length false).set 0 true) _ _ _ Zs (by simp[r.len]) j (by simp;exact r.vg.1) hk;rw[i.eq,<-List.map_reverse]
 simpa[r.zero] using this
end
end Go.Proofs.YtoahcpkibpomcaaGreat
