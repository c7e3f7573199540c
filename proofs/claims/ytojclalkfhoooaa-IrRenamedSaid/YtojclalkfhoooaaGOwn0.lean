/- Part of a proof. -/
import Derived.Test.YtojclalkfhoooaaGLw0
set_option linter.all false
namespace Go.Proofs.Ytojclalkfhoooaa
open Go.RowKit
variable {w w':World}{rs:List Row}{r:Row}
theorem Rows.perm{B:Nat}{rs':List Row}(h:Rows w B rs)(hp:rs.Perm rs'):Rows w B rs':=
 ⟨fun r hr=>h.own r (hp.mem_iff.2 hr),(hp.filterMap Row.blk).nodup_iff.1 h.nd⟩
theorem Rows.lt{B:Nat}(h:Rows w B rs){k:Nat}(hk:k∈rs.filterMap Row.blk):B<=k/\k<w.heap.size:=by
 obtain⟨r,hr,e⟩:=Nj.1 hk;exact(h.own r hr).lt k e
theorem Rows.keep{B:Nat}(h:Rows w B rs)(hk:∀k∈rs.filterMap Row.blk,w'.heap[k]? =w.heap[k]?):Rows w' B rs:=
 ⟨fun r hr=>yD (h.own r hr) (fun k e=>hk k (Nj.2 ⟨r,hr,e⟩)),h.nd⟩
theorem Rows.tail{B:Nat}(h:Rows w B (r::rs)):Rows w B rs:=by
 refine⟨fun x hx=>h.own x (List.mem_cons_of_mem _ hx),?_⟩;have:=h.nd;rw[List.filterMap_cons] at this
 split at this
 ·exact this
 ·exact(Qt.1 this).2
theorem Rows.apart{B:Nat}(h:Rows w B (r::rs)){g:Nat}(hg:r.blk=some g):g ∉ rs.filterMap Row.blk:=by
 have:=h.nd;rw[List.filterMap_cons,hg] at this;exact(Qt.1 this).1
theorem Rows.cons{B:Nat}(h:Rows w B rs)(hr:w.ownsRow B r.e r.sz r.v r.n r.cs)(d:∀g,r.blk=some g->g ∉ rs.filterMap Row.blk):Rows w B (r::rs):=by
 refine⟨fun x c=>?_,?_⟩
 ·rcases Jq.1 c with rfl|c
  ·exact hr
  ·exact h.own x c
 ·rw[List.filterMap_cons]
  split
  ·exact h.nd
  ·rename_i g hg
   exact Qt.2 ⟨d g hg,h.nd⟩
theorem Rows.nil{B:Nat}:Rows w B []:=⟨fun r hr=>by simp at hr,by simp⟩
theorem Rows.grow{w1:World}{B:Nat}{r':Row}(h:Rows w B (r::rs))(hb:F w w1)(hg:w1.grownBy w' r.blk)(c:w'.ownsRow B r'.e r'.sz r'.v r'.n r'.cs)(d:∀k,r'.blk=some k->r.blk=some k∨w.heap.size<=k):Rows w' B (r'::rs):=by
 have i:Rows w' B rs:=h.tail.keep fun k hk=>(hg.block k (Jy (h.tail.lt hk).2 hb.size) (fun e=>h.apart e.symm hk)).trans (hb.block k (h.tail.lt hk).2)
 refine i.cons c fun g e hg2=>?_
 rcases d g e with e2|e2
 ·exact h.apart e2 hg2
 ·have:=(h.tail.lt hg2).2;omega
def zP (v:Value)(xs:List Int):Row:=⟨v,3,1,xs.length,xs.map zN⟩
end Go.Proofs.Ytojclalkfhoooaa
