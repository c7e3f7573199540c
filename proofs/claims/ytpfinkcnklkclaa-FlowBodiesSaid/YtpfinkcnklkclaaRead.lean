/-
  The walks of the functions that only read: Ints, mod.
-/
import Derived.Test.YtpfinkcnklkclaaMem
set_option linter.unusedVariables false
set_option linter.unusedSimpArgs false
namespace Go.Proofs.Ytpfinkcnklkclaa
open Go.RowKit

set_option maxHeartbeats 400000 in
theorem ints_any (w : World) (B B' : Nat) (u v : Value) (xs ys : List Int) (hx : SliceOf encInt w B u xs) (hy : SliceOf encInt w B' v ys) (bx : xs.length ≤ 9223372036854775807) (by' : ys.length ≤ 9223372036854775807) :
    Calls Try.prog 20 #[u, v] w fun e w' => e = .returned (.bool (decide (xs = ys))) ∧ ∃ n, w' = w.drewN n := by
  obtain ⟨a, ca, rfl, hca, ha⟩ := hx
  obtain ⟨b, cb, rfl, hcb, hb⟩ := hy
  by_cases hl : xs.length = ys.length
  · have hl1 : ((xs.length : Int) != (ys.length : Int)) = false := by simp [hl]
    have HL := Lib.hid hl; clear hl
    go_enter Try.func20, Try.ntmps20
    go_wp2
    go_loopw [5] (fun i wr => ∃ k : Nat, k ≤ xs.length ∧ i = .int .i64 k ∧ xs.take k = ys.take k ∧ ∃ n, wr = w.drewN n) (fun i _ => xs.length - (intOf i).toNat)
    case atStart => exact ⟨0, Nat.zero_le _, rfl, by simp, 0, rfl⟩
    case round =>
      obtain ⟨k, hk, rfl, heq, n, rfl⟩ := hrel
      have EQ := Lib.hid heq; clear heq
      by_cases hlt : k < xs.length
      · have hlt2 : k < ys.length := by have := HL.out; omega
        obtain ⟨x, hx⟩ : ∃ x, xs[k]? = some x := ⟨_, List.getElem?_eq_getElem hlt⟩
        obtain ⟨y, hy⟩ : ∃ y, ys[k]? = some y := ⟨_, List.getElem?_eq_getElem hlt2⟩
        obtain ⟨b1, o1, rfl, _, g1⟩ := ha k x hx
        obtain ⟨b2, o2, rfl, _, g2⟩ := hb k y hy
        have HX := Lib.hid hx; clear hx
        have HY := Lib.hid hy; clear hy
        have hlt3 : (k : Int) < xs.length := by omega
        have hlt4 : (k : Int) < ys.length := by omega
        simp only [encInt] at g1 g2
        clear ha hb
        by_cases hxy : x = y
        · subst hxy
          go_wp2
          go_quiet (fail)
          go_wp2
          go_roundw
          case rel => exact ⟨k + 1, by omega, by go_num, by rw [List.take_add_one, List.take_add_one, EQ.out, HX.out, HY.out], _, rfl⟩
          case measure => simp [intOf]; omega
        · have hne : (x != y) = true := by simpa using hxy
          have hf : decide (xs = ys) = false := by
            simp only [decide_eq_false_iff_not]
            intro h; subst h
            exact hxy (Option.some.inj (HX.out.symm.trans HY.out))
          have HF := Lib.hid hf; clear hf hxy
          go_wp2
          go_quiet (fail)
          go_wp2
          go_ret
          exact ⟨by rw [HF.out]; rfl, _, World.drewN_drewN _ _ _⟩
      · have hkk : k = xs.length := by omega
        subst hkk
        have hf : decide (xs = ys) = true := by
          have h1 := EQ.out
          rw [List.take_length, HL.out, List.take_length] at h1
          simpa using h1
        have HF := Lib.hid hf; clear hf
        go_wp2
        go_ret
        exact ⟨by rw [HF.out]; rfl, _, rfl⟩
  · have hl1 : ((xs.length : Int) != (ys.length : Int)) = true := by simp; omega
    go_enter Try.func20, Try.ntmps20
    go_wp2
    go_ret
    exact ⟨by simp; intro h; simp [h] at hl, 0, rfl⟩

end Go.Proofs.Ytpfinkcnklkclaa
