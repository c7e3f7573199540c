/-
  A graph whose header is copied and to which rows are appended: what lies in memory.
-/
import Derived.Test.YtpfinkcnklkclaaSwp0
set_option linter.unusedVariables false
set_option linter.unusedSimpArgs false
namespace Go.Proofs.Ytpfinkcnklkclaa
open Go.RowKit

/-- Each row as it lay in V, or in a block of its own since. -/
def RowAt (V wx : World) (v : Value) (row : List Nat) : Prop := SliceOf encNat V V.heap.size v row ∨ wx.ownsRow V.heap.size 3 1 v row.length (row.map encNat)
structure HdrMem (V wx : World) (bh : Nat) (hv : Value) (R : List (List Nat)) : Prop where
  ex : ∃ vs : List Value, vs.length = R.length ∧ wx.ownsRow V.heap.size 29 1 hv R.length vs ∧ ∀ (k : Nat) (v : Value) (row : List Nat), vs[k]? = some v → R[k]? = some row → RowAt V wx v row
  hg : wx.heap[bh]? = some (.cells #[hv] 24 (0, 0))
  hb : Below V.heap.size V wx
  gh : V.heap.size ≤ bh
theorem RowAt.below {V wx w2 : World} {v : Value} {row : List Nat} (h : RowAt V wx v row) (hb : Below wx.heap.size wx w2) : RowAt V w2 v row := by
  rcases h with h | h
  · exact .inl h
  · exact .inr (ownsRow_below h hb (Nat.le_refl _))
theorem HdrMem.below {V wx w2 : World} {bh : Nat} {hv : Value} {R : List (List Nat)} (h : HdrMem V wx bh hv R) (hb : Below wx.heap.size wx w2) : HdrMem V w2 bh hv R := by
  obtain ⟨⟨vs, h1, h2, h3⟩, h4, h5, h6⟩ := h
  exact ⟨⟨vs, h1, ownsRow_below h2 hb (Nat.le_refl _), fun k v row hk hr => (h3 k v row hk hr).below hb⟩, below_blk hb h4 (lt_of_block h4), h5.trans (hb.mono h5.size), h6⟩
theorem HdrMem.push {V wx w2 : World} {bh : Nat} {hv hv' lv : Value} {R : List (List Nat)} {row : List Nat} {vs : List Value} (h1 : vs.length = R.length) (h2 : wx.ownsRow V.heap.size 29 1 hv R.length vs)
    (h3 : ∀ (k : Nat) (v : Value) (row : List Nat), vs[k]? = some v → R[k]? = some row → RowAt V wx v row) (h4 : wx.heap[bh]? = some (.cells #[hv] 24 (0, 0))) (h5 : Below V.heap.size V wx) (h6 : V.heap.size ≤ bh)
    (hl : RowAt V wx lv row) (ob : Obj) (hg : (wx.alloc ob).grownBy w2 hv.ownBlock) (hown : w2.ownsRow V.heap.size 29 1 hv' (R.length + 1) (vs ++ [lv])) :
    HdrMem V (w2.setCell ⟨bh, 0, none⟩ hv') bh hv' (R ++ [row]) := by
  have ho := lt_of_block h4
  have hb2 := grown_blk hg (alloc_blk h4) (ownsRow_block_ne h2 h4 (.inr (by decide)))
  have hs5 := h5.size
  have key : ∀ {v : Value} {row : List Nat}, RowAt V wx v row → RowAt V (w2.setCell ⟨bh, 0, none⟩ hv') v row := fun {v row} hv1 => by
    rcases hv1 with hv1 | hv1
    · exact .inl hv1
    · have hk := (hv1.alloc ob).kept hg (ownsRow_apart hv1 h2 (by decide))
      exact .inr (ownsRow_setCell_other hk (ownsRow_block_ne hk hb2 (.inr (by decide))) _)
  refine ⟨⟨vs ++ [lv], by simp [h1], by rw [List.length_append]; exact ownsRow_setCell_other hown (ownsRow_block_ne hown hb2 (.inr (by decide))) _, fun k v r hk hr => ?_⟩, ?_, ((h5.alloc hs5 ob).grown hg (by simp; omega) (fun k e => (h2.lt k e).1)).setCell h6 _, h6⟩
  · by_cases hkl : k < vs.length
    · rw [List.getElem?_append_left hkl] at hk
      rw [List.getElem?_append_left (by omega)] at hr
      exact key (h3 k v r hk hr)
    · rw [List.getElem?_append_right (by omega)] at hk
      rw [List.getElem?_append_right (by omega)] at hr
      have hk0 : k - vs.length = 0 := by have := (List.getElem?_eq_some_iff.1 hk).1; simp at this; omega
      rw [hk0] at hk
      rw [show k - R.length = 0 by omega] at hr
      simp at hk hr
      subst hk; subst hr
      exact key hl
  · rw [heap_setCell_self hb2]; simp
theorem HdrMem.graph {V wx : World} {bh : Nat} {hv : Value} {R : List (List Nat)} (h : HdrMem V wx bh hv R) (hR : ValidG R) (hn : R.length ≤ 2000000) (hm : ∀ row ∈ R, row.length ≤ 2000000) : Var wx bh hv R := by
  obtain ⟨⟨vs, h1, h2, h3⟩, h4, h5, h6⟩ := h
  refine ⟨h4, ⟨⟨vs, ?_, h1, fun k v row hk hr => ?_⟩, hR, hn, hm⟩⟩
  · have := sliceOf_own (enc := id) (xs := vs) (by rw [List.map_id, h1]; exact h2) (Nat.le_refl wx.heap.size)
    exact this
  · rcases h3 k v row hk hr with h | h
    · exact (h.below h5).mono h5.size
    · exact sliceOf_own h (Nat.le_refl _)
theorem own_empty {w : World} {base : Nat} {t : TypeId} (hb : base ≤ w.heap.size) : (w.alloc (.cells #[] t)).ownsRow base t 1 (.slice (some ⟨w.heap.size, 0, none⟩) 0 0) 0 [] :=
  ⟨by simp, .inr ⟨w.heap.size, 0, #[], by simp, hb, new_at (by simp), by simp, by decide, by simp, by simp⟩⟩
/-- The header of a graph, as values. -/
theorem GraphIn.header {w : World} {bp n : Nat} {g : List (List Nat)} (h : GraphIn w (.slice (some ⟨bp, 0, none⟩) n n) g) : ∃ vs : List Value, vs.length = g.length ∧ n = g.length ∧ bp < w.heap.size ∧ (∀ j u, vs[j]? = some u → w.cell? ((⟨bp, 0, none⟩ : Addr).add j) = some u) ∧ (∀ u ∈ vs, u.oneCell' = true) ∧
    ∀ (k : Nat) (v : Value) (row : List Nat), vs[k]? = some v → g[k]? = some row → SliceOf encNat w w.heap.size v row := by
  obtain ⟨vs, ⟨a, cap, e, hc, hx⟩, h2, h3⟩ := h.rows
  have hadd : ∀ j, (⟨bp, 0, none⟩ : Addr).add j = ⟨bp, j, none⟩ := fun j => by unfold Addr.add; split <;> simp_all
  simp only [Value.slice.injEq] at e
  obtain ⟨rfl, e2, rfl⟩ := e
  have hpos : 0 < vs.length := by rw [h2]; exact h.valid.1
  refine ⟨vs, h2, by omega, ?_, fun j u hu => ?_, fun u hu => ?_, h3⟩
  · obtain ⟨b, o, e, hlt, _⟩ := hx 0 _ (List.getElem?_eq_getElem hpos)
    simp at e; omega
  · obtain ⟨b, o, e, _, hcw⟩ := hx j u hu
    simp at e
    obtain ⟨rfl, rfl⟩ := e
    rw [hadd]; simpa using hcw
  · obtain ⟨k, hk⟩ := List.getElem?_of_mem hu
    have hkl := (List.getElem?_eq_some_iff.1 hk).1
    obtain ⟨a, c, rfl, _⟩ := h3 k u g[k] hk (List.getElem?_eq_getElem (by omega))
    rfl
end Go.Proofs.Ytpfinkcnklkclaa
