/-
  The walks of Made at any list, and of the laws' made.
-/
import Derived.Test.YtpfinkcnklkclaaMade
import Derived.Test.YtpfinkcnklkclaaSan0
set_option linter.unusedVariables false
set_option linter.unusedSimpArgs false
namespace Go.Proofs.Ytpfinkcnklkclaa
open Go.RowKit

theorem made_nil (w : World) (a : Option Addr) (cap : Nat) : Calls Try.prog 44 #[.slice a 0 cap] w (RetGraph w (madeL [])) := by
  go_enter Try.func44, Try.ntmps44
  go_wp2
  try simp only [Exit.inBlock, Exit.then]
  refine bodyPost_ret (v := .agg #[.slice (some ⟨w.heap.size + 1, 0, none⟩) 1 1]) ?_ rfl ?_
  · rw [results_cell1 rfl]
    go_simp
  · exact ⟨w.heap.size + 1, rfl, by omega, OwnRows.made 1 (new_at (by simp)), ⟨⟨by decide, by decide⟩, by decide, by decide⟩, ((Below.refl _ w).alloc (Nat.le_refl _) _).alloc (by simp) _⟩

theorem made_any (w : World) (sv : Value) (l : List (Int × Int)) (h : PairsOf w w.heap.size sv l) (hi : ∀ p ∈ l, I64 p.1 ∧ I64 p.2) (hlen : l.length ≤ 60) : Calls Try.prog 44 #[sv] w (RetGraph w (madeL l)) := by
  cases l with
  | nil => obtain ⟨a, cap, rfl, _, _⟩ := h; exact made_nil w a cap
  | cons p0 l => exact made_ne w sv p0 l h hi hlen

theorem PairsOf.below {w w' : World} {B : Nat} {v : Value} {l : List (Int × Int)} (h : PairsOf w B v l) (hb : Below B w w') : PairsOf w' B v l := by
  obtain ⟨a, cap, rfl, hc, hx⟩ := h
  refine ⟨a, cap, rfl, hc, fun k p hk => ?_⟩
  obtain ⟨b, o, h1, h2, h3, h4⟩ := hx k p hk
  exact ⟨b, o, h1, h2, (hb.cell (p := ⟨b, o + k * 2, none⟩) h2).trans h3, (hb.cell (p := ⟨b, o + k * 2 + 1, none⟩) h2).trans h4⟩
theorem PairsOf.mono {w : World} {B B' : Nat} {v : Value} {l : List (Int × Int)} (h : PairsOf w B v l) (hb : B ≤ B') : PairsOf w B' v l := by
  obtain ⟨a, cap, rfl, hc, hx⟩ := h
  refine ⟨a, cap, rfl, hc, fun k p hk => ?_⟩
  obtain ⟨b, o, h1, h2, h3, h4⟩ := hx k p hk
  exact ⟨b, o, h1, by omega, h3, h4⟩
theorem madeL_len (l : List (Int × Int)) : (madeL l).length ≤ 20 := by
  cases l with
  | nil => simp [madeL]
  | cons p0 l =>
    have hN : madeN (p0 :: l) ≤ 20 := by
      unfold madeN
      have h1 := Int.emod_lt_of_pos ((p0 :: l).headD (0, 0)).1 (show (0 : Int) < ((min 20 ((p0 :: l).length + 1) : Nat) : Int) by omega)
      have h2 := Int.emod_nonneg ((p0 :: l).headD (0, 0)).1 (show ((min 20 ((p0 :: l).length + 1) : Nat) : Int) ≠ 0 by omega)
      omega
    rw [madeL_cons]
    generalize madeN (p0 :: l) = n at hN
    have h1 := foldl_inv (fun R : List (List Nat) => R.length = n) (madeStep n) l (List.replicate n []) (by simp) (fun R p _ hR => by unfold madeStep; simpa [addEdge] using hR)
    have h2 := foldl_inv (fun R : List (List Nat) => R.length = n) (made2 p0.2) (List.range (n - 1)) _ h1 (fun R u _ hR => by
      unfold made2; split
      · simpa [addEdge] using hR
      · exact hR)
    rw [h2]; exact hN

set_option maxRecDepth 100000 in
theorem law_made (w : World) (sv : Value) (l : List (Int × Int)) (h : PairsOf w w.heap.size sv l) (hi : ∀ p ∈ l, I64 p.1 ∧ I64 p.2) (hl : l.length ≤ 9223372036854775807) :
    Calls Try.prog 30 #[sv] w (RetGraph w (madeL (l.take 60))) := by
  obtain ⟨a, cap, rfl, hcap, hx⟩ := h
  have HX := Lib.hid hx
  have HI := Lib.hid hi
  clear hx hi
  obtain ⟨mm, hmm⟩ : ∃ mm : Nat, (mm : Int) = if (60 : Int) < (l.length : Int) then 60 else (l.length : Int) := ⟨min l.length 60, by split <;> omega⟩
  have hmin : ∀ (ts : Array TypeId) (t : TypeId) (W : World), (Builtin.min_ ts t #[.int .i64 (l.length : Int), .int .i64 60]).run Try.prog W = .ok (.int .i64 (mm : Int)) W := fun ts t W => by rw [hmm]; exact run_min_int2 ..
  have hmm1 : mm ≤ 60 ∧ mm ≤ l.length ∧ (l.take 60).length = mm := by
    rw [List.length_take]
    split at hmm <;> omega
  have hmmI : (mm : Int) ≤ cap := by omega
  have HP : Hid (∀ o, PairsOf (w.alloc o) (w.alloc o).heap.size (.slice a mm cap) (l.take 60)) := by
    intro o
    refine ⟨a, cap, by rw [hmm1.2.2], by omega, fun k p hk => ?_⟩
    have hkl := (List.getElem?_eq_some_iff.1 hk).1
    rw [List.getElem?_take, if_pos (by omega)] at hk
    obtain ⟨b, o', h1, h2, h3, h4⟩ := HX.out k p hk
    have hb := (Below.refl w.heap.size w).alloc (Nat.le_refl _) o
    exact ⟨b, o', h1, by simp; omega, (hb.cell (p := ⟨b, o' + k * 2, none⟩) h2).trans h3, (hb.cell (p := ⟨b, o' + k * 2 + 1, none⟩) h2).trans h4⟩
  clear hmm
  go_enter Try.func30, Try.ntmps30
  go_wp2_with (go_at_call 44; go_must (refine (made_any _ _ (l.take 60) (HP.out _) (fun p hp => HI.out p (List.mem_of_mem_take hp)) (by omega)).mono ?_; rintro e w1 ⟨bp, rfl, hbp, hor, hgv, hb⟩; have hs0 := below_blk hb (new_at (W := w) (o := .cells #[.slice none 0 0] 24) rfl) (by simp); have cs0 := cell_of_blk (i := 0) (v := .slice none 0 0) hs0 (by simp); have fs0 := free_of_blk (i := 0) hs0))
  try simp only [Exit.inBlock, Exit.then]
  have hsw : w.heap.size < w1.heap.size := lt_of_block hs0
  refine bodyPost_ret (v := .agg #[.slice (some ⟨bp, 0, none⟩) (madeL (l.take 60)).length (madeL (l.take 60)).length]) ?_ rfl ?_
  · rw [results_cell1 rfl]
    have hcell : (w1.setCell ⟨w.heap.size, 0, none⟩ (.slice (some ⟨bp, 0, none⟩) (madeL (l.take 60)).length (madeL (l.take 60)).length)).cell? ⟨w.heap.size, 0, none⟩ = some (.slice (some ⟨bp, 0, none⟩) (madeL (l.take 60)).length (madeL (l.take 60)).length) := cell_of_blk (heap_setCell_self hs0 _) (by simp)
    go_simp
  · have hbw : Below w.heap.size w w1 := ((Below.refl _ w).alloc (Nat.le_refl _) _).trans (hb.mono (by simp))
    refine ⟨bp, rfl, by simp at hbp; omega, ?_, hgv, hbw.setCell (Nat.le_refl _) _⟩
    obtain ⟨vs, v1, v2, v3, v4⟩ := hor
    refine ⟨vs, set_blk v1 (by simp at hbp ⊢; omega), v2, fun k row v hk hv => ?_, v4⟩
    have h5 := ownsRow_mono (v3 k row v hk hv) (base' := w.heap.size) (by simp)
    exact ownsRow_setCell_other h5 (ownsRow_block_ne (b := w.heap.size) h5 hs0 (.inr (by decide))) _
end Go.Proofs.Ytpfinkcnklkclaa
