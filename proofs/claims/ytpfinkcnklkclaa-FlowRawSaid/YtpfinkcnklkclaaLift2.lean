/-
  The arguments of the laws, opened: a graph as it comes in.
-/
import Derived.Test.YtpfinkcnklkclaaLift0
set_option linter.unusedVariables false
set_option linter.unusedSimpArgs false
namespace Go.Proofs.Ytpfinkcnklkclaa
open Go.ChangeShapes Go.WideShapes Go.ChangeAt Go.RowKit

/-- One slice of whole numbers, as it lies. -/
theorem ints_at {H : Type} {enc : TypeId × Value → H} {W : World} {fuel : Nat} {u : Value} {x : DataW H × List MemPlace} (hf : DataW.trod enc Try.prog W 0 (fun _ => true) true fuel 29 [u] = some x) :
    ∃ row : List Int, SliceOf encInt W W.heap.size u row ∧ row.length ≤ 9223372036854775807 := by
  have c1 : Try.prog.cellsOf 3 = 1 := by kernel_rfl
  rcases open_ints Try.underlying29 Try.underlying3 c1 hf with ⟨h1, _⟩ | ⟨a, len, cap, zs, h1, hb, hl, hm, hz, _, hcell, hwf⟩
  · simp at h1; subst h1
    exact ⟨[], ⟨none, 0, rfl, Nat.le_refl _, by simp⟩, by simp⟩
  · simp at h1; subst h1
    simp only [if_true] at hz
    refine ⟨zs.take len, ⟨some a, cap, by simp [hz, Nat.min_eq_left hl], by simp [hz]; omega, fun k y hk => ?_⟩, by simp; unfold maxLen at hm; omega⟩
    have hkl := (List.getElem?_eq_some_iff.1 hk).1
    simp [hz] at hkl
    rw [List.getElem?_take, if_pos (by omega), List.getElem?_eq_getElem (by omega)] at hk
    have hkx := Option.some.inj hk
    have h4 := hcell k (by omega)
    have hs := spot_none (hcell 0 (by omega))
    have ha : a = ⟨a.block, a.off, none⟩ := by
      cases a; simp [Addr.add] at hs; simp [hs]
    rw [ha, add_plain] at h4
    refine ⟨a.block, a.off, by rw [← ha], cellLt h4, h4.trans ?_⟩
    rw [← hkx, List.getD_eq_getElem?_getD, List.getElem?_eq_getElem (by omega)]
    rfl
theorem rows_at {H : Type} {enc : TypeId × Value → H} {W : World} {fuel : Nat} {u : Value} {x : DataW H × List MemPlace} (hf : DataW.trod enc Try.prog W 0 (fun _ => true) true fuel 22 [u] = some x) :
    ∃ g : List (List Int), RowsOf encInt W W.heap.size u g ∧ g.length ≤ 9223372036854775807 ∧ ∀ row ∈ g, row.length ≤ 9223372036854775807 := by
  have c1 : Try.prog.cellsOf 29 = 1 := by kernel_rfl
  rcases Go.Deep.open_slice Try.underlying22 hf with ⟨h1, _⟩ | ⟨a, len, cap, m, n, D, Pl, h1, hb, hl, hm, hmm, _, hx⟩
  · simp at h1; subst h1
    exact ⟨[], ⟨[], ⟨none, 0, rfl, Nat.le_refl _, by simp⟩, rfl, by simp⟩, by simp, by simp⟩
  · simp at h1; subst h1
    simp only [if_true] at hmm
    have each : ∀ i, i < len → ∃ q : Value × List Int, W.cell? (a.add i) = some q.1 ∧ SliceOf encInt W W.heap.size q.1 q.2 ∧ q.2.length ≤ 9223372036854775807 := by
      intro i hi
      obtain ⟨cs', h2, h3⟩ := hx i (by omega)
      rw [c1] at h2
      obtain ⟨_, hlen, hcell⟩ := World.cells?_some h2
      match cs', hlen with
      | [u0], _ =>
        obtain ⟨row, hr, hrl⟩ := ints_at h3
        have k0 := hcell 0 (by omega)
        rw [Go.Deep.add_add] at k0
        exact ⟨(u0, row), by simpa using k0, hr, hrl⟩
    obtain ⟨q, hq⟩ := Go.Deep.choose_lt each
    refine ⟨(List.range len).map fun i => (q i).2, ⟨(List.range len).map fun i => (q i).1, ⟨some a, cap, by simp, by simpa using hl, fun k y hk => ?_⟩, by simp, fun k rv row hk hr => ?_⟩, by simp; unfold maxLen at hm; omega, fun row hr => ?_⟩
    · have hkl := (List.getElem?_eq_some_iff.1 hk).1
      simp at hkl
      rw [List.getElem?_map, List.getElem?_range hkl] at hk
      obtain rfl := Option.some.inj hk
      have h4 := (hq k hkl).1
      have hs := spot_none (hq 0 (by omega)).1
      have ha : a = ⟨a.block, a.off, none⟩ := by
        cases a; simp [Addr.add] at hs; simp [hs]
      rw [ha, add_plain] at h4
      exact ⟨a.block, a.off, by rw [← ha], cellLt h4, h4⟩
    · have hkl := (List.getElem?_eq_some_iff.1 hk).1
      simp at hkl
      rw [List.getElem?_map, List.getElem?_range hkl] at hk hr
      obtain rfl := Option.some.inj hk
      obtain rfl := Option.some.inj hr
      exact (hq k hkl).2.1
    · obtain ⟨i, hi, rfl⟩ := List.mem_map.1 hr
      exact (hq i (List.mem_range.1 hi)).2.2
theorem graph_open {H : Type} {enc : TypeId × Value → H} {W : World} {v : Value} {d : DataW H} {p : List MemPlace} {r : Go.Reach} {base : Nat} (hv : Value.okWide Try.prog W r base 24 v)
    (h0 : DataW.Trod enc Try.prog W 0 (fun _ => true) true 24 v d p) : ∃ (sv : Value) (g : List (List Int)), v = .agg #[sv] ∧ RowsOf encInt W W.heap.size sv g ∧ g.length ≤ 9223372036854775807 ∧ ∀ row ∈ g, row.length ≤ 9223372036854775807 := by
  obtain ⟨cs, rfl, hsz⟩ := okWide_struct Try.underlying24 hv
  have c1 : Try.prog.cellsOf 24 = 1 := by kernel_rfl
  have c2 : Try.prog.cellsOf 22 = 1 := by kernel_rfl
  rw [c1] at hsz
  obtain ⟨sv, rfl⟩ : ∃ sv, cs = #[sv] := by
    match cs, hsz with
    | ⟨[x]⟩, _ => exact ⟨x, rfl⟩
  obtain ⟨fuel, hf⟩ := h0
  obtain ⟨y0, n, _, _, hf2⟩ := trod_struct1 Try.underlying24 hf
  simp [Value.cells, c2] at hf2
  obtain ⟨g, h1, h2, h3⟩ := rows_at hf2
  exact ⟨sv, g, rfl, h1, h2, h3⟩
end Go.Proofs.Ytpfinkcnklkclaa
