/-
  The arguments of the laws, opened: two bytes.
-/
import Derived.Test.YtpfinkcnklkclaaLift0
set_option linter.unusedVariables false
set_option linter.unusedSimpArgs false
namespace Go.Proofs.Ytpfinkcnklkclaa
open Go.ChangeShapes Go.WideShapes Go.ChangeAt Go.RowKit

theorem which_open {H : Type} {enc : TypeId × Value → H} {W : World} {v : Value} {d : DataW H} {p : List MemPlace} {r : Go.Reach} {base : Nat} (hv : Value.okWide Try.prog W r base 49 v)
    (h0 : DataW.Trod enc Try.prog W 0 (fun _ => true) true 49 v d p) : ∃ c0 c1 : Nat, v = .agg #[.int .u8 (c0 : Int), .int .u8 (c1 : Int)] ∧ c0 ≤ 255 ∧ c1 ≤ 255 := by
  have c2 : Try.prog.cellsOf 49 = 2 := by kernel_rfl
  have c1 : Try.prog.cellsOf 5 = 1 := by kernel_rfl
  simp only [Value.okWide, Try.underlying49] at hv
  obtain ⟨cs, rfl, hsz, _⟩ := hv
  rw [c2] at hsz
  obtain ⟨u0, u1, rfl⟩ : ∃ u0 u1, cs = #[u0, u1] := by
    match cs, hsz with
    | ⟨[x, y]⟩, _ => exact ⟨x, y, rfl⟩
  obtain ⟨fuel, hf⟩ := h0
  obtain ⟨xs, k, _, _, _, hxl, hel⟩ := DataW.trod_array Try.underlying49 hf
  have g0 := hel 0 (by omega)
  have g1 := hel 1 (by omega)
  rw [c1] at g0 g1
  rw [List.getElem?_eq_getElem (by omega)] at g0 g1
  obtain ⟨n0, e0, _, w0⟩ := DataW.trod_int Try.underlying5 g0
  obtain ⟨n1, e1, _, w1⟩ := DataW.trod_int Try.underlying5 g1
  simp [Value.cells] at e0 e1
  subst e0; subst e1
  have hw : ∀ z : Int, (Lit.int .u8 z).wf = true → 0 ≤ z ∧ z ≤ 255 := fun z hz => by
    simpa [Lit.wf, IntKind.min, IntKind.max, IntKind.signed, IntKind.bits] using hz
  have h0 := hw n0 w0
  have h1 := hw n1 w1
  exact ⟨n0.toNat, n1.toNat, by rw [Int.toNat_of_nonneg h0.1, Int.toNat_of_nonneg h1.1], by omega, by omega⟩
end Go.Proofs.Ytpfinkcnklkclaa
