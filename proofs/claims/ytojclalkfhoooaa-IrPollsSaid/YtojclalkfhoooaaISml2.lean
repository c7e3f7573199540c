/-
  small: its result block by block. Rows of operations of the call's own.
-/
import Derived.Test.YtojclalkfhoooaaISan
import Derived.Test.YtojclalkfhoooaaGApp
set_option linter.unusedVariables false
set_option linter.unusedSimpArgs false
namespace Go.Proofs.Ytojclalkfhoooaa
open Go.RowKit

theorem Try.info_irop : (Try.prog.info? 77).map (fun i => (i.zero, i.size, i.bytes)) = some (some (.agg #[.int .i64 0, .int .i64 0, .int .i64 0, .int .i64 0, .int .u16 0, .slice none 0 0]), 6, 64) := by kernel_rfl
theorem Try.info_irfunc : (Try.prog.info? 43).map (fun i => (i.zero, i.size, i.bytes)) = some (some (.agg #[.slice none 0 0]), 1, 24) := by kernel_rfl
/-- small's result: the block of its functions, that of its one function's blocks below it. -/
def RetSmlO (w : World) (tk ta : Int) (eds : List IEdge) (ops : List IOp) (e : Ending) (w' : World) : Prop :=
  ∃ bb bf ba, e = .returned (.agg #[.slice (some ⟨bf, 0, none⟩) 1 1, .slice (some ⟨ba, 0, none⟩) 1 1, .int .i64 0, .int .i64 (-1), .slice none 0 0, .slice none 0 0]) ∧
    w'.heap[bf]? = some (.cells #[.slice (some ⟨bb, 0, none⟩) 1 1] 43 (0, 0)) ∧ w.heap.size ≤ bf ∧ BlksIn w' bf (.slice (some ⟨bb, 0, none⟩) 1 1) [⟨[], ops, ⟨tk, ta, eds⟩⟩] ∧ Below w.heap.size w w'
set_option maxHeartbeats 1000000 in
set_option maxRecDepth 100000 in
theorem small_own {w : World} {tk ta : Int} (ht : I64 tk ∧ I64 ta) {eds : List IEdge} {tv : Value} (hto : EdgesIn w w.heap.size tv eds) {ops : List IOp} {ov : Value} (hov : OpsIn w w.heap.size ov ops) :
    Calls Try.prog 32 #[.agg #[.int .i64 tk, .int .i64 ta, tv], ov] w (RetSmlO w tk ta eds ops) := by
  obtain ⟨ea, ec, rfl, _, _⟩ := hto.form
  obtain ⟨oa, oc, rfl, _, _⟩ := hov.form
  have HTO := Lib.hid (And.intro ht (And.intro hto hov))
  clear hto hov ht
  go_enter Try.func32, Try.ntmps32
  go_wp2
  have hb : Below w.heap.size w (((((w.alloc (.cells #[.int .i64 tk, .int .i64 ta, .slice ea eds.length ec] 47)).alloc (.cells #[.slice (some ⟨w.heap.size + 1 + 1 + 1, 0, none⟩) 1 1, .slice (some ⟨w.heap.size + 1 + 1 + 1 + 1, 0, none⟩) 1 1, .int .i64 0, .int .i64 (-1), .slice none 0 0, .slice none 0 0] 29)).alloc (.cells #[.slice none 0 0, .slice oa ops.length oc, .int .i64 tk, .int .i64 ta, .slice ea eds.length ec] 49)).alloc (.cells #[.slice (some ⟨w.heap.size + 1 + 1, 0, none⟩) 1 1] 43)).alloc (.cells #[.int .i64 0] 3)) := (((((Below.refl _ _).alloc (Nat.le_refl _) _).alloc (by simp) _).alloc (by simp; omega) _).alloc (by simp; omega) _).alloc (by simp; omega) _
  have h1 : (((((w.alloc (.cells #[.int .i64 tk, .int .i64 ta, .slice ea eds.length ec] 47)).alloc (.cells #[.slice (some ⟨w.heap.size + 1 + 1 + 1, 0, none⟩) 1 1, .slice (some ⟨w.heap.size + 1 + 1 + 1 + 1, 0, none⟩) 1 1, .int .i64 0, .int .i64 (-1), .slice none 0 0, .slice none 0 0] 29)).alloc (.cells #[.slice none 0 0, .slice oa ops.length oc, .int .i64 tk, .int .i64 ta, .slice ea eds.length ec] 49)).alloc (.cells #[.slice (some ⟨w.heap.size + 1 + 1, 0, none⟩) 1 1] 43)).alloc (.cells #[.int .i64 0] 3)).heap[w.heap.size + 1 + 1]? = some (.cells #[.slice none 0 0, .slice oa ops.length oc, .int .i64 tk, .int .i64 ta, .slice ea eds.length ec] 49) := alloc_blk (alloc_blk (new_at (by simp)))
  have h2 : (((((w.alloc (.cells #[.int .i64 tk, .int .i64 ta, .slice ea eds.length ec] 47)).alloc (.cells #[.slice (some ⟨w.heap.size + 1 + 1 + 1, 0, none⟩) 1 1, .slice (some ⟨w.heap.size + 1 + 1 + 1 + 1, 0, none⟩) 1 1, .int .i64 0, .int .i64 (-1), .slice none 0 0, .slice none 0 0] 29)).alloc (.cells #[.slice none 0 0, .slice oa ops.length oc, .int .i64 tk, .int .i64 ta, .slice ea eds.length ec] 49)).alloc (.cells #[.slice (some ⟨w.heap.size + 1 + 1, 0, none⟩) 1 1] 43)).alloc (.cells #[.int .i64 0] 3)).heap[w.heap.size + 1 + 1 + 1]? = some (.cells #[.slice (some ⟨w.heap.size + 1 + 1, 0, none⟩) 1 1] 43) := alloc_blk (new_at (by simp))
  refine bodyPost_ret (v := .agg #[.slice (some ⟨w.heap.size + 1 + 1 + 1, 0, none⟩) 1 1, .slice (some ⟨w.heap.size + 1 + 1 + 1 + 1, 0, none⟩) 1 1, .int .i64 0, .int .i64 (-1), .slice none 0 0, .slice none 0 0]) ?_ rfl ?_
  · rw [results_cell1 rfl]
    go_simp
  · generalize hW : (((((w.alloc (.cells #[.int .i64 tk, .int .i64 ta, .slice ea eds.length ec] 47)).alloc (.cells #[.slice (some ⟨w.heap.size + 1 + 1 + 1, 0, none⟩) 1 1, .slice (some ⟨w.heap.size + 1 + 1 + 1 + 1, 0, none⟩) 1 1, .int .i64 0, .int .i64 (-1), .slice none 0 0, .slice none 0 0] 29)).alloc (.cells #[.slice none 0 0, .slice oa ops.length oc, .int .i64 tk, .int .i64 ta, .slice ea eds.length ec] 49)).alloc (.cells #[.slice (some ⟨w.heap.size + 1 + 1, 0, none⟩) 1 1] 43)).alloc (.cells #[.int .i64 0] 3)) = W at *
    have hE := (HTO.out.2.1.below edgeR_stable hb).mono edgeR_stable (show w.heap.size ≤ w.heap.size + 1 + 1 + 1 by omega)
    have hO := (HTO.out.2.2.below opR_stable hb).mono opR_stable (show w.heap.size ≤ w.heap.size + 1 + 1 + 1 by omega)
    refine ⟨_, _, _, rfl, h2, by omega, ?_, hb⟩
    refine Elems.one (by omega) ?_
    exact ⟨cell_of_blk h1 (by simp), cell_of_blk h1 (by simp), HTO.out.1, .slice none 0 0, .slice oa ops.length oc, .slice ea eds.length ec, cell_of_blk h1 (by simp), cell_of_blk h1 (by simp), cell_of_blk h1 (by simp), Elems.nil, hO, hE⟩
theorem ops_own {w : World} {S : Nat} {v : Value} {l : List (IOp × Value)} (h : w.ownsRow S 77 6 v l.length (l.flatMap opCells)) (h64 : ∀ q ∈ l, Op64 q.1 ∧ IntsIn w w.heap.size q.2 q.1.args) : OpsIn w w.heap.size v (l.map (·.1)) := by
  obtain ⟨a, c, rfl⟩ := ownsRow_form h
  have hl := ownsRow_le h
  refine ⟨a, c, by rw [List.length_map], by rw [List.length_map]; exact hl.1, by omega, fun k o hk => ?_⟩
  rw [List.getElem?_map, Option.map_eq_some_iff] at hk
  obtain ⟨q, hq, rfl⟩ := hk
  have hkl := (List.getElem?_eq_some_iff.1 hq).1
  obtain ⟨g, cap, e, hg, hb⟩ := h.form (by omega)
  cases e
  have hc : ∀ j v, (opCells q)[j]? = some v → w.cell? ⟨g, 0 + k * 6 + j, none⟩ = some v := fun j v hj => by
    have hj6 : j < 6 := (List.getElem?_eq_some_iff.1 hj).1
    rw [Nat.zero_add]
    exact (h.cellAt (k * 6 + j) (by omega)).trans ((flat_get opCells 6 (fun _ => rfl) l k q hq j hj6).trans hj)
  obtain ⟨h1, h2⟩ := h64 q (List.mem_of_getElem? hq)
  exact ⟨g, 0, rfl, hb, hc 0 _ rfl, hc 1 _ rfl, hc 2 _ rfl, hc 3 _ rfl, hc 4 _ rfl, h1, q.2, hc 5 _ rfl, h2⟩
/-- A row of the call's own through steps that do not write its block. -/
theorem own_step {w w' : World} {base : Nat} {e : TypeId} {size n : Nat} {v : Value} {xs : List Value} (h : w.ownsRow base e size v n xs) (hk : ∀ k, v.ownBlock = some k → w'.heap[k]? = w.heap[k]?) : w'.ownsRow base e size v n xs := by
  refine ⟨h.1, ?_⟩
  rcases h.2 with h2 | ⟨g, cap, cur, rfl, hg, hh, r⟩
  · exact .inl h2
  · exact .inr ⟨g, cap, cur, rfl, hg, (hk g rfl).trans hh, r⟩
theorem funcs_own {w : World} {S : Nat} {v : Value} {l : List (List IBlk × Value)} (h : w.ownsRow S 43 1 v l.length (l.map (·.2))) (hb : ∀ q ∈ l, BlksIn w w.heap.size q.2 q.1) : FuncsIn w w.heap.size v (l.map (·.1)) := by
  obtain ⟨a, c, rfl⟩ := ownsRow_form h
  have hl := ownsRow_le h
  refine ⟨a, c, by rw [List.length_map], by rw [List.length_map]; exact hl.1, by omega, fun k o hk => ?_⟩
  rw [List.getElem?_map, Option.map_eq_some_iff] at hk
  obtain ⟨q, hq, rfl⟩ := hk
  have hkl := (List.getElem?_eq_some_iff.1 hq).1
  obtain ⟨g, cap, e, hg, hlt⟩ := h.form (by omega)
  cases e
  refine ⟨g, 0, rfl, hlt, q.2, ?_, hb q (List.mem_of_getElem? hq)⟩
  rw [Nat.mul_one, Nat.zero_add]
  exact (h.cellAt k (by omega)).trans (by rw [List.getElem?_map, hq]; rfl)
/-- One struct in a block of its own, as what is appended. -/
theorem SrcAt.cells {w : World} {b n : Nat} {xs : List Value} {e : TypeId} (h : w.heap[b]? = some (.cells xs.toArray e (0, 0))) (hn : xs.length = n) (hx : ∀ u ∈ xs, u.oneCell' = true) : SrcAt w n (.slice (some ⟨b, 0, none⟩) 1 1) 1 xs :=
  ⟨_, _, rfl, by omega, hx, .inr ⟨_, rfl, World.news_of_block (cs := xs.toArray) h⟩⟩
end Go.Proofs.Ytojclalkfhoooaa
