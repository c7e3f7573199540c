/-
  The arguments of the laws, opened: numbers and truth values.
-/
import Derived.Test.YtojclalkfhoooaaGApp
import Derived.ProofKit
import Derived.OpenShut
import Derived.Carry
import Derived.Deep.Slices
set_option linter.unusedVariables false
set_option linter.unusedSimpArgs false
set_option maxRecDepth 100000
namespace Go.Proofs.Ytojclalkfhoooaa
open Go.ChangeShapes Go.WideShapes Go.ChangeAt Go.RowKit

section
variable {H : Type} {enc : TypeId × Value → H} {W : World} {v : Value} {d : DataW H} {p : List MemPlace} {r : Go.Reach} {base : Nat}
theorem u16_open (hv : Value.okWide Try.prog W r base 39 v) (h0 : DataW.Trod enc Try.prog W 0 (fun _ => true) true 39 v d p) : ∃ x : Nat, v = .int .u16 (x : Int) ∧ x < 65536 := by
  obtain ⟨n, rfl, _, _, hw⟩ := open_int Try.underlying39 hv h0
  have h : 0 ≤ n ∧ n ≤ 65535 := by simpa [Lit.wf, IntKind.min, IntKind.max, IntKind.signed, IntKind.bits] using hw
  exact ⟨n.toNat, by rw [Int.toNat_of_nonneg h.1], by omega⟩
theorem u8_open (hv : Value.okWide Try.prog W r base 5 v) (h0 : DataW.Trod enc Try.prog W 0 (fun _ => true) true 5 v d p) : ∃ x : Nat, v = .int .u8 (x : Int) ∧ x < 256 := by
  obtain ⟨n, rfl, _, _, hw⟩ := open_int Try.underlying5 hv h0
  have h : 0 ≤ n ∧ n ≤ 255 := by simpa [Lit.wf, IntKind.min, IntKind.max, IntKind.signed, IntKind.bits] using hw
  exact ⟨n.toNat, by rw [Int.toNat_of_nonneg h.1], by omega⟩
theorem int_open (hv : Value.okWide Try.prog W r base 3 v) (h0 : DataW.Trod enc Try.prog W 0 (fun _ => true) true 3 v d p) : ∃ x : Int, v = .int .i64 x ∧ I64 x := by
  obtain ⟨n, rfl, _, _, hw⟩ := open_int Try.underlying3 hv h0
  refine ⟨n, rfl, ?_⟩
  unfold I64
  simpa [Lit.wf, IntKind.min, IntKind.max, IntKind.signed, IntKind.bits] using hw
theorem bool_open (hv : Value.okWide Try.prog W r base 4 v) (h0 : DataW.Trod enc Try.prog W 0 (fun _ => true) true 4 v d p) : ∃ x : Bool, v = .bool x := okWide_bool Try.underlying4 hv
end
end Go.Proofs.Ytojclalkfhoooaa
