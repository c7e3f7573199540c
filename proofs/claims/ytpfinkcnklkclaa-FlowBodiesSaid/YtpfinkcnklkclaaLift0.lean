/-
  The arguments of the laws, opened: a slice of pairs of numbers.
-/
import Derived.Test.YtpfinkcnklkclaaMade
import Derived.ProofKit
import Derived.OpenShut
import Derived.Carry
import Derived.Deep.Slices
set_option linter.unusedVariables false
set_option linter.unusedSimpArgs false
namespace Go.Proofs.Ytpfinkcnklkclaa
open Go.ChangeShapes Go.WideShapes Go.ChangeAt Go.RowKit

theorem spot_none {w : World} {a : Addr} {v : Value} (h : w.cell? a = some v) : a.spot = none := by
  unfold World.cell? at h
  split at h
  · split at h
    · simp at h
    · rename_i h2; simpa using h2
  · simp at h
theorem add_plain (b o k : Nat) : (⟨b, o, none⟩ : Addr).add k = ⟨b, o + k, none⟩ := by
  unfold Addr.add; split
  · rename_i h; subst h; rfl
  · rfl
theorem i64_of_wf {n : Int} (h : (Lit.int .i64 n).wf = true) : I64 n := by
  unfold I64
  simpa [Lit.wf, IntKind.min, IntKind.max, IntKind.signed, IntKind.bits] using h

theorem pairs_open {H : Type} {enc : TypeId × Value → H} {W : World} {v : Value} {d : DataW H} {p : List MemPlace} {r : Go.Reach} {base : Nat} (hv : Value.okWide Try.prog W r base 34 v)
    (h0 : DataW.Trod enc Try.prog W 0 (fun _ => true) true 34 v d p) : ∃ l : List (Int × Int), PairsOf W W.heap.size v l ∧ (∀ q ∈ l, I64 q.1 ∧ I64 q.2) ∧ l.length ≤ 9223372036854775807 := by
  obtain ⟨a0, len0, cap0, rfl⟩ := okWide_slice Try.underlying34 hv
  obtain ⟨fuel, hf⟩ := h0
  have c2 : Try.prog.cellsOf 73 = 2 := by kernel_rfl
  have c1 : Try.prog.cellsOf 3 = 1 := by kernel_rfl
  rcases Go.Deep.open_slice Try.underlying34 hf with ⟨h1, _⟩ | ⟨a, len, cap, m, n, D, Pl, h1, hb, hl, hm, hmm, _, hx⟩
  · simp [Value.cells] at h1
    obtain ⟨rfl, rfl, rfl⟩ := h1
    exact ⟨[], ⟨none, 0, rfl, Nat.le_refl _, by simp⟩, by simp, by simp⟩
  · simp [Value.cells] at h1
    obtain ⟨rfl, rfl, rfl⟩ := h1
    simp only [if_true] at hmm
    have each : ∀ i, i < len0 → ∃ q : Int × Int, W.cell? (a.add (i * 2)) = some (.int .i64 q.1) ∧ W.cell? (a.add (i * 2 + 1)) = some (.int .i64 q.2) ∧ I64 q.1 ∧ I64 q.2 := by
      intro i hi
      obtain ⟨cs', h2, h3⟩ := hx i (by omega)
      rw [c2] at h2
      obtain ⟨_, hlen, hcell⟩ := World.cells?_some h2
      obtain ⟨xs, k, _, _, _, hxl, hel⟩ := DataW.trod_array Try.underlying73 h3
      match cs', hlen with
      | [u0, u1], _ =>
        have g0 := hel 0 (by omega)
        have g1 := hel 1 (by omega)
        rw [c1] at g0 g1
        rw [List.getElem?_eq_getElem (by omega)] at g0 g1
        obtain ⟨n0, e0, _, w0⟩ := DataW.trod_int Try.underlying3 g0
        obtain ⟨n1, e1, _, w1⟩ := DataW.trod_int Try.underlying3 g1
        simp at e0 e1
        subst e0; subst e1
        have k0 := hcell 0 (by omega)
        have k1 := hcell 1 (by omega)
        rw [Go.Deep.add_add] at k0 k1
        exact ⟨(n0, n1), by simpa using k0, by simpa using k1, i64_of_wf w0, i64_of_wf w1⟩
    obtain ⟨q, hq⟩ := Go.Deep.choose_lt each
    refine ⟨(List.range len0).map q, ⟨some a, cap0, by simp, by simpa using hl, fun k y hk => ?_⟩, ?_, ?_⟩
    · have hkl := (List.getElem?_eq_some_iff.1 hk).1
      simp at hkl
      rw [List.getElem?_map, List.getElem?_range hkl] at hk
      obtain rfl := Option.some.inj hk
      obtain ⟨h4, h5, _⟩ := hq k hkl
      have hz := (hq 0 (by omega)).1
      have hs := spot_none hz
      rw [Nat.zero_mul] at hs
      have ha : a = ⟨a.block, a.off, none⟩ := by
        cases a; simp [Addr.add] at hs; simp [hs]
      rw [ha, add_plain] at h4 h5
      exact ⟨a.block, a.off, by rw [← ha], cellLt h4, h4, by simpa [Nat.add_assoc] using h5⟩
    · intro y hy
      obtain ⟨i, hi, rfl⟩ := List.mem_map.1 hy
      exact (hq i (List.mem_range.1 hi)).2.2
    · simp; unfold maxLen at hm; omega
end Go.Proofs.Ytpfinkcnklkclaa
