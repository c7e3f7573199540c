/-
  The arguments of the laws, opened: a slice of bytes.
-/
import Derived.Test.YtpfinkcnklkclaaLift0
import Derived.Test.YtpfinkcnklkclaaLPath
set_option linter.unusedVariables false
set_option linter.unusedSimpArgs false
namespace Go.Proofs.Ytpfinkcnklkclaa
open Go.ChangeShapes Go.WideShapes Go.ChangeAt Go.RowKit

theorem bytes_open {H : Type} {enc : TypeId × Value → H} {W : World} {v : Value} {d : DataW H} {p : List MemPlace} {r : Go.Reach} {base : Nat} (hv : Value.okWide Try.prog W r base 39 v)
    (h0 : DataW.Trod enc Try.prog W 0 (fun _ => true) true 39 v d p) : ∃ cs : List Nat, SliceOf encU8 W W.heap.size v cs ∧ (∀ c ∈ cs, c ≤ 255) ∧ cs.length ≤ 9223372036854775807 := by
  obtain ⟨a0, len0, cap0, rfl⟩ := okWide_slice Try.underlying39 hv
  obtain ⟨fuel, hf⟩ := h0
  have c1 : Try.prog.cellsOf 5 = 1 := by kernel_rfl
  rcases open_ints Try.underlying39 Try.underlying5 c1 hf with ⟨h1, _⟩ | ⟨a, len, cap, zs, h1, hb, hl, hm, hz, _, hcell, hwf⟩
  · simp [Value.cells] at h1
    obtain ⟨rfl, rfl, rfl⟩ := h1
    exact ⟨[], ⟨none, 0, rfl, Nat.le_refl _, by simp⟩, by simp, by simp⟩
  · simp [Value.cells] at h1
    obtain ⟨rfl, rfl, rfl⟩ := h1
    simp only [if_true] at hz
    have hwz : ∀ z ∈ zs, 0 ≤ z ∧ z ≤ 255 := fun z hzz => by
      have := hwf z hzz
      simpa [Lit.wf, IntKind.min, IntKind.max, IntKind.signed, IntKind.bits] using this
    refine ⟨(zs.take len0).map Int.toNat, ⟨some a, cap0, by simp [hz, Nat.min_eq_left hl], by simp [hz]; omega, fun k x hk => ?_⟩, ?_, ?_⟩
    · have hkl := (List.getElem?_eq_some_iff.1 hk).1
      simp [hz] at hkl
      rw [List.getElem?_map, List.getElem?_take, if_pos (by omega), List.getElem?_eq_getElem (by omega)] at hk
      have hkx := Option.some.inj hk
      have h4 := hcell k (by omega)
      have hz0 := hcell 0 (by omega)
      have hs := spot_none hz0
      have ha : a = ⟨a.block, a.off, none⟩ := by
        cases a; simp [Addr.add] at hs; simp [hs]
      rw [ha, add_plain] at h4
      have hg := hwz zs[k] (List.getElem_mem (by omega))
      refine ⟨a.block, a.off, by rw [← ha], cellLt h4, h4.trans ?_⟩
      rw [← hkx, List.getD_eq_getElem?_getD, List.getElem?_eq_getElem (by omega)]
      unfold encU8
      simp only [Option.getD_some]
      rw [Int.toNat_of_nonneg hg.1]
    · intro c hc
      obtain ⟨z, hzz, rfl⟩ := List.mem_map.1 hc
      have := hwz z (List.mem_of_mem_take hzz)
      omega
    · simp; unfold maxLen at hm; omega
end Go.Proofs.Ytpfinkcnklkclaa
