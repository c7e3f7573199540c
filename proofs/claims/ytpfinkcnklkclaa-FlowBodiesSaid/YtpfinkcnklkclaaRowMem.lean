/-
  A slice of slices that the call has made: each row nil or in a block of its own.
-/
import Derived.Test.YtpfinkcnklkclaaMem
set_option linter.unusedVariables false
set_option linter.unusedSimpArgs false
namespace Go.Proofs.Ytpfinkcnklkclaa
open Go.RowKit

/-- Block bp holds the headers (of type eS) of rows of elements of type e; each row is owned, from block B on, and no two lie in one block. -/
def OwnRows {α : Type} (enc : α → Value) (e eS : TypeId) (w : World) (B bp : Nat) (rows : List (List α)) : Prop :=
  ∃ vs : List Value, w.heap[bp]? = some (.cells vs.toArray eS (0, 0)) ∧ vs.length = rows.length ∧ (∀ (k : Nat) (row : List α) (v : Value), rows[k]? = some row → vs[k]? = some v → w.ownsRow B e 1 v row.length (row.map enc)) ∧
    ∀ (i j : Nat) (vi vj : Value), i ≠ j → vs[i]? = some vi → vs[j]? = some vj → vi.ownBlock = none ∨ vi.ownBlock ≠ vj.ownBlock

section
variable {α : Type} {enc : α → Value} {e eS : TypeId} {w : World} {B bp : Nat} {rows : List (List α)}

theorem OwnRows.made (n : Nat) (h : w.heap[bp]? = some (.cells (List.replicate n (.slice none 0 0)).toArray eS (0, 0))) : OwnRows enc e eS w B bp (List.replicate n []) := by
  refine ⟨_, h, by simp, fun k row v h1 h2 => ?_, fun i j vi vj _ h1 _ => ?_⟩
  · simp only [List.getElem?_replicate] at h1 h2
    split at h1
    · rw [if_pos ‹_›] at h2
      cases h1; cases h2
      exact World.ownsRow_nil _ _ _ _
    · cases h1
  · simp only [List.getElem?_replicate] at h1
    split at h1
    · cases h1; exact .inl rfl
    · cases h1

theorem OwnRows.blk (h : OwnRows enc e eS w B bp rows) : ∃ c, w.heap[bp]? = some (.cells c eS (0, 0)) := let ⟨vs, h, _⟩ := h; ⟨_, h⟩
theorem OwnRows.bplt (h : OwnRows enc e eS w B bp rows) : bp < w.heap.size := let ⟨_, h⟩ := h.blk; lt_of_block h

/-- One row: its header's cell; that it is owned. -/
theorem OwnRows.get (h : OwnRows enc e eS w B bp rows) {s : Nat} {row : List α} (hs : rows[s]? = some row) :
    ∃ a cap, w.cell? ⟨bp, s, none⟩ = some (.slice a row.length cap) ∧ w.ownsRow B e 1 (.slice a row.length cap) row.length (row.map enc) ∧ w.frozen? ⟨bp, s, none⟩ = false := by
  obtain ⟨vs, h1, h2, h3, h4⟩ := h
  have hlt : s < vs.length := by rw [h2]; exact (List.getElem?_eq_some_iff.1 hs).1
  have hv := List.getElem?_eq_getElem hlt
  have ho := h3 s row _ hs hv
  obtain ⟨a, cap, e1⟩ := ownsRow_form ho
  refine ⟨a, cap, cell_of_blk h1 (by simp [hv, e1]), by rw [← e1]; exact ho, free_of_blk h1⟩

/-- The rows stay while another block is written. -/
theorem OwnRows.kept (h : OwnRows enc e eS w B bp rows) {w' : World} {row : Option Nat} (hg : w.grownBy w' row) (hb : row ≠ some bp) (hr : ∀ k, row = some k → k < B) : OwnRows enc e eS w' B bp rows := by
  obtain ⟨vs, h1, h2, h3, h4⟩ := h
  refine ⟨vs, grown_blk hg h1 hb, h2, fun k r v a b => (h3 k r v a b).kept hg ?_, h4⟩
  cases hk : v.ownBlock with
  | none => exact .inl rfl
  | some g =>
    right
    intro e1
    have := (h3 k r v a b).lt g hk
    have := hr g e1.symm
    omega

/-- One row is turned: its header is stored back. -/
theorem OwnRows.put (h : OwnRows enc e eS w B bp rows) (hne : e ≠ eS) {s : Nat} {row row' : List α} (hs : rows[s]? = some row) {a : Option Addr} {cap : Nat} (hc : w.cell? ⟨bp, s, none⟩ = some (.slice a row.length cap))
    {o : Obj} {w2 : World} {g cap' H : Nat} (hg : (w.alloc o).grownBy w2 (Value.slice a row.length cap).ownBlock) (hown : w2.ownsRow B e 1 (.slice (some ⟨g, 0, none⟩) row'.length cap') row'.length (row'.map enc))
    (hat : (Value.slice a row.length cap).ownBlock = some g ∨ g = H) (hH : w.heap.size ≤ H) :
    OwnRows enc e eS (w2.setCell ⟨bp, s, none⟩ (.slice (some ⟨g, 0, none⟩) row'.length cap')) B bp (rows.set s row') := by
  obtain ⟨vs, h1, h2, h3, h4⟩ := h
  have hlt : s < vs.length := by rw [h2]; exact (List.getElem?_eq_some_iff.1 hs).1
  have hv := List.getElem?_eq_getElem hlt
  have ho := h3 s row _ hs hv
  have hsv : vs[s] = .slice a row.length cap := by
    have h5 := cell_of_blk (i := s) h1 (v := vs[s]) (by simp)
    rw [h5] at hc; exact Option.some.inj hc
  rw [hsv] at ho hv
  have hnb := ownsRow_block_ne ho h1 (.inr hne)
  have h1' := grown_blk hg (alloc_blk h1) hnb
  have hbg : ∀ (k : Nat) (v : Value), k ≠ s → vs[k]? = some v → v.ownBlock ≠ some bp ∧ (∀ r, rows[k]? = some r → (w2.setCell ⟨bp, s, none⟩ (.slice (some ⟨g, 0, none⟩) row'.length cap')).ownsRow B e 1 v r.length (r.map enc)) ∧ (v.ownBlock = none ∨ v.ownBlock ≠ some g) := by
    intro k v hk hvk
    have hkl : k < rows.length := by rw [← h2]; exact (List.getElem?_eq_some_iff.1 hvk).1
    have hok := h3 k _ v (List.getElem?_eq_getElem hkl) hvk
    have hn := ownsRow_block_ne hok h1 (.inr hne)
    refine ⟨hn, fun r hr => ?_, ?_⟩
    · have hok2 := h3 k r v hr hvk
      have hk2 := (hok2.alloc o).kept hg (h4 k s v _ hk hvk hv)
      exact ownsRow_setCell_other hk2 (by simpa using hn) _
    · rcases hat with hat | hat
      · rw [← hat]; exact h4 k s v _ hk hvk hv
      · right; intro e1
        have := (hok.lt g e1).2
        omega
  refine ⟨vs.set s (.slice (some ⟨g, 0, none⟩) row'.length cap'), ?_, by simp [h2], fun k r v hr hvk => ?_, fun i j vi vj hij hi hj => ?_⟩
  · rw [heap_setCell_self h1']; simp
  · by_cases hk : s = k
    · subst hk
      rw [List.getElem?_set_self (by omega)] at hr
      rw [List.getElem?_set_self hlt] at hvk
      cases hr; cases hvk
      exact ownsRow_setCell_other hown (ownsRow_block_ne (b := bp) hown h1' (.inr hne)) _
    · rw [List.getElem?_set_ne hk] at hr hvk
      exact (hbg k v (Ne.symm hk) hvk).2.1 r hr
  · by_cases hi' : s = i
    · subst hi'
      rw [List.getElem?_set_self hlt] at hi
      rw [List.getElem?_set_ne hij] at hj
      cases hi
      rcases (hbg j vj (Ne.symm hij) hj).2.2 with h5 | h5
      · right; rw [h5]; simp [Value.ownBlock]
      · right; exact Ne.symm h5
    · rw [List.getElem?_set_ne hi'] at hi
      by_cases hj' : s = j
      · subst hj'
        rw [List.getElem?_set_self hlt] at hj
        cases hj
        exact (hbg i vi (Ne.symm hi') hi).2.2
      · rw [List.getElem?_set_ne hj'] at hj
        exact h4 i j vi vj hij hi hj

/-- Read as a slice of slices. -/
theorem OwnRows.asRows (h : OwnRows enc e eS w B bp rows) {C : Nat} (hC : w.heap.size ≤ C) : RowsOf enc w C (.slice (some ⟨bp, 0, none⟩) rows.length rows.length) rows := by
  obtain ⟨vs, h1, h2, h3, h4⟩ := h
  have hb := lt_of_block h1
  refine ⟨vs, ⟨_, rows.length, by rw [h2], by omega, fun k x hk => ⟨bp, 0, rfl, by omega, cell_of_blk h1 (by simpa using hk)⟩⟩, h2, fun k rv row hk hr => ?_⟩
  have ho := h3 k row rv hr hk
  rcases ho.2 with ⟨rfl, h0⟩ | ⟨g, cap, cur, rfl, hg, hh, hle, hcm, hcs, htake⟩
  · exact ⟨none, 0, by rw [h0], by omega, fun j x hj => by rw [List.eq_nil_of_length_eq_zero h0] at hj; simp at hj⟩
  · refine ⟨_, cap, rfl, hle, fun j x hj => ⟨g, 0, rfl, by have := lt_of_block hh; omega, ?_⟩⟩
    have hjl := (List.getElem?_eq_some_iff.1 hj).1
    rw [Nat.zero_add]
    exact (ho.cellAt j (by omega)).trans (by simp [hj])
end

/-- An owned row, read as a slice. -/
theorem sliceOf_own {α : Type} {enc : α → Value} {e : TypeId} {w : World} {B C : Nat} {v : Value} {xs : List α} (ho : w.ownsRow B e 1 v xs.length (xs.map enc)) (hC : w.heap.size ≤ C) : SliceOf enc w C v xs := by
  rcases ho.2 with ⟨rfl, h0⟩ | ⟨g, cap, cur, rfl, hg, hh, hle, hcm, hcs, htake⟩
  · exact ⟨none, 0, by rw [h0], by omega, fun j x hj => by rw [List.eq_nil_of_length_eq_zero h0] at hj; simp at hj⟩
  · refine ⟨_, cap, rfl, hle, fun j x hj => ⟨g, 0, rfl, by have := lt_of_block hh; omega, ?_⟩⟩
    have hjl := (List.getElem?_eq_some_iff.1 hj).1
    rw [Nat.zero_add]
    exact (ho.cellAt j (by omega)).trans (by simp [hj])
end Go.Proofs.Ytpfinkcnklkclaa
