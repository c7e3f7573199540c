/-
  The arguments of the laws, opened: rows of bytes.
-/
import Derived.Test.YtpfinkcnklkclaaLift1
set_option linter.unusedVariables false
set_option linter.unusedSimpArgs false
namespace Go.Proofs.Ytpfinkcnklkclaa
open Go.ChangeShapes Go.WideShapes Go.ChangeAt Go.RowKit

/-- One slice of bytes, as it lies. -/
theorem bytes_at {H : Type} {enc : TypeId × Value → H} {W : World} {fuel : Nat} {u : Value} {x : DataW H × List MemPlace} (hf : DataW.trod enc Try.prog W 0 (fun _ => true) true fuel 39 [u] = some x) :
    ∃ row : List Nat, SliceOf encU8 W W.heap.size u row ∧ (∀ c ∈ row, c ≤ 255) ∧ row.length ≤ 9223372036854775807 := by
  have c1 : Try.prog.cellsOf 5 = 1 := by kernel_rfl
  rcases open_ints Try.underlying39 Try.underlying5 c1 hf with ⟨h1, _⟩ | ⟨a, len, cap, zs, h1, hb, hl, hm, hz, _, hcell, hwf⟩
  · simp at h1; subst h1
    exact ⟨[], ⟨none, 0, rfl, Nat.le_refl _, by simp⟩, by simp, by simp⟩
  · simp at h1; subst h1
    simp only [if_true] at hz
    have hwz : ∀ z ∈ zs, 0 ≤ z ∧ z ≤ 255 := fun z hzz => by
      have := hwf z hzz
      simpa [Lit.wf, IntKind.min, IntKind.max, IntKind.signed, IntKind.bits] using this
    refine ⟨(zs.take len).map Int.toNat, ⟨some a, cap, by simp [hz, Nat.min_eq_left hl], by simp [hz]; omega, fun k x hk => ?_⟩, ?_, ?_⟩
    · have hkl := (List.getElem?_eq_some_iff.1 hk).1
      simp [hz] at hkl
      rw [List.getElem?_map, List.getElem?_take, if_pos (by omega), List.getElem?_eq_getElem (by omega)] at hk
      have hkx := Option.some.inj hk
      have h4 := hcell k (by omega)
      have hs := spot_none (hcell 0 (by omega))
      have ha : a = ⟨a.block, a.off, none⟩ := by
        cases a; simp [Addr.add] at hs; simp [hs]
      rw [ha, add_plain] at h4
      have hg := hwz zs[k] (List.getElem_mem (by omega))
      refine ⟨a.block, a.off, by rw [← ha], cellLt h4, h4.trans ?_⟩
      rw [← hkx, List.getD_eq_getElem?_getD, List.getElem?_eq_getElem (by omega)]
      unfold encU8
      simp only [Option.getD_some]
      rw [Int.toNat_of_nonneg hg.1]
    · intro c hc
      obtain ⟨z, hzz, rfl⟩ := List.mem_map.1 hc
      have := hwz z (List.mem_of_mem_take hzz)
      omega
    · simp; unfold maxLen at hm; omega
theorem brows_at {H : Type} {enc : TypeId × Value → H} {W : World} {fuel : Nat} {u : Value} {x : DataW H × List MemPlace} (hf : DataW.trod enc Try.prog W 0 (fun _ => true) true fuel 47 [u] = some x) :
    ∃ g : List (List Nat), RowsOf encU8 W W.heap.size u g ∧ g.length ≤ 9223372036854775807 ∧ ∀ row ∈ g, (∀ c ∈ row, c ≤ 255) ∧ row.length ≤ 9223372036854775807 := by
  have c1 : Try.prog.cellsOf 39 = 1 := by kernel_rfl
  rcases Go.Deep.open_slice Try.underlying47 hf with ⟨h1, _⟩ | ⟨a, len, cap, m, n, D, Pl, h1, hb, hl, hm, hmm, _, hx⟩
  · simp at h1; subst h1
    exact ⟨[], ⟨[], ⟨none, 0, rfl, Nat.le_refl _, by simp⟩, rfl, by simp⟩, by simp, by simp⟩
  · simp at h1; subst h1
    simp only [if_true] at hmm
    have each : ∀ i, i < len → ∃ q : Value × List Nat, W.cell? (a.add i) = some q.1 ∧ SliceOf encU8 W W.heap.size q.1 q.2 ∧ (∀ c ∈ q.2, c ≤ 255) ∧ q.2.length ≤ 9223372036854775807 := by
      intro i hi
      obtain ⟨cs', h2, h3⟩ := hx i (by omega)
      rw [c1] at h2
      obtain ⟨_, hlen, hcell⟩ := World.cells?_some h2
      match cs', hlen with
      | [u0], _ =>
        obtain ⟨row, hr, hrb, hrl⟩ := bytes_at h3
        have k0 := hcell 0 (by omega)
        rw [Go.Deep.add_add] at k0
        exact ⟨(u0, row), by simpa using k0, hr, hrb, hrl⟩
    obtain ⟨q, hq⟩ := Go.Deep.choose_lt each
    refine ⟨(List.range len).map fun i => (q i).2, ⟨(List.range len).map fun i => (q i).1, ⟨some a, cap, by simp, by simpa using hl, fun k y hk => ?_⟩, by simp, fun k rv row hk hr => ?_⟩, by simp; unfold maxLen at hm; omega, fun row hr => ?_⟩
    · have hkl := (List.getElem?_eq_some_iff.1 hk).1
      simp at hkl
      rw [List.getElem?_map, List.getElem?_range hkl] at hk
      obtain rfl := Option.some.inj hk
      have h4 := (hq k hkl).1
      have hs := spot_none (hq 0 (by omega)).1
      have ha : a = ⟨a.block, a.off, none⟩ := by
        cases a; simp [Addr.add] at hs; simp [hs]
      rw [ha, add_plain] at h4
      exact ⟨a.block, a.off, by rw [← ha], cellLt h4, h4⟩
    · have hkl := (List.getElem?_eq_some_iff.1 hk).1
      simp at hkl
      rw [List.getElem?_map, List.getElem?_range hkl] at hk hr
      obtain rfl := Option.some.inj hk
      obtain rfl := Option.some.inj hr
      exact (hq k hkl).2.1
    · obtain ⟨i, hi, rfl⟩ := List.mem_map.1 hr
      exact (hq i (List.mem_range.1 hi)).2.2
theorem brows_open {H : Type} {enc : TypeId × Value → H} {W : World} {v : Value} {d : DataW H} {p : List MemPlace} {r : Go.Reach} {base : Nat} (hv : Value.okWide Try.prog W r base 47 v)
    (h0 : DataW.Trod enc Try.prog W 0 (fun _ => true) true 47 v d p) : ∃ g : List (List Nat), RowsOf encU8 W W.heap.size v g ∧ g.length ≤ 9223372036854775807 ∧ ∀ row ∈ g, (∀ c ∈ row, c ≤ 255) ∧ row.length ≤ 9223372036854775807 := by
  obtain ⟨a0, len0, cap0, rfl⟩ := okWide_slice Try.underlying47 hv
  obtain ⟨fuel, hf⟩ := h0
  have e : (Value.slice a0 len0 cap0).cells = #[.slice a0 len0 cap0] := by simp [Value.cells]
  first
    | exact brows_at hf
    | (simp [Value.cells] at hf; exact brows_at hf)
end Go.Proofs.Ytpfinkcnklkclaa
