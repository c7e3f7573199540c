/-
  The walk of slices.Reverse at []int: a row of the call's own, reversed in place.
-/
import Derived.Test.YtpfinkcnklkclaaMem
import Derived.BigRegion
set_option linter.unusedVariables false
set_option linter.unusedSimpArgs false
namespace Go.Proofs.Ytpfinkcnklkclaa
open Go.RowKit

/-- What lies in the row when k pairs have been exchanged. -/
def RevAt (xs ys : List Nat) (k : Nat) : Prop := ys.length = xs.length ∧ ∀ m, m < xs.length → ys[m]? = if m < k ∨ xs.length ≤ m + k then xs[xs.length - 1 - m]? else xs[m]?

theorem RevAt.start (xs : List Nat) : RevAt xs xs 0 := ⟨rfl, fun m hm => by rw [if_neg (by omega)]⟩
theorem RevAt.step {xs ys : List Nat} {k j x y : Nat} (h : RevAt xs ys k) (hj : k + j + 1 = xs.length) (hkj : k < j) (hx : ys[k]? = some x) (hy : ys[j]? = some y) : RevAt xs ((ys.set k y).set j x) (k + 1) := by
  obtain ⟨h1, h2⟩ := h
  refine ⟨by simp [h1], fun m hm => ?_⟩
  have e1 := h2 k (by omega)
  have e2 := h2 j (by omega)
  rw [if_neg (by omega)] at e1 e2
  rw [List.getElem?_set]
  by_cases hmj : j = m
  · subst hmj
    rw [if_pos rfl, if_pos (by simp [h1]; omega), if_pos (by omega), show xs.length - 1 - j = k by omega, ← e1, hx]
  · rw [if_neg hmj, List.getElem?_set]
    by_cases hmk : k = m
    · subst hmk
      rw [if_pos rfl, if_pos (by omega), if_pos (by omega), show xs.length - 1 - k = j by omega, ← e2, hy]
    · rw [if_neg hmk, h2 m hm]
      by_cases hc : m < k ∨ xs.length ≤ m + k
      · rw [if_pos hc, if_pos (by omega)]
      · rw [if_neg hc, if_neg (by omega)]
theorem RevAt.done {xs ys : List Nat} {k : Nat} (h : RevAt xs ys k) (hk : xs.length ≤ 2 * k + 1) : ys = xs.reverse := by
  obtain ⟨h1, h2⟩ := h
  apply List.ext_getElem?
  intro m
  by_cases hm : m < xs.length
  · rw [h2 m hm, List.getElem?_reverse hm]
    by_cases hc : m < k ∨ xs.length ≤ m + k
    · rw [if_pos hc]
    · rw [if_neg hc]; congr 1; omega
  · rw [List.getElem?_eq_none (by omega), List.getElem?_eq_none (by simp; omega)]

set_option maxHeartbeats 1600000 in
theorem reverse_any (w : World) (base : Nat) (v : Value) (xs : List Nat) (hown : w.ownsRow base 3 1 v xs.length (xs.map encNat)) (hn : xs.length ≤ 4000000) :
    Calls Try.prog 37 #[v] w fun e w' => e = .returned (.tuple #[]) ∧ w'.ownsRow base 3 1 v xs.length (xs.reverse.map encNat) ∧ w.grownBy w' v.ownBlock := by
  rcases hown.2 with ⟨rfl, h0⟩ | ⟨g, cap, cur, rfl, hg, hh, _⟩
  · have hx : xs = [] := List.eq_nil_of_length_eq_zero h0
    subst hx
    go_enter Try.func37, Try.ntmps37
    go_wp2
    refine wp_loop_rounds 1 ?_
    rw [rounds_succ]
    go_wp2
    go_end0
    exact ⟨rfl, by simpa using hown, ⟨rfl, rfl, rfl, Nat.le_refl _, fun _ _ _ => rfl⟩⟩
  · clear hh hg
    have HO := Lib.hid hown; clear hown
    go_enter Try.func37, Try.ntmps37
    go_wp2
    go_loopw [2, 3] (fun i j wr => ∃ (k : Nat) (jj : Int), i = .int .i64 k ∧ j = .int .i64 jj ∧ Hid ((k : Int) + jj + 1 = xs.length) ∧ (k : Int) ≤ xs.length ∧ -1 ≤ jj + k ∧ jj ≤ xs.length ∧ ∃ ys, Hid (RevAt xs ys k ∧ wr.ownsRow base 3 1 (.slice (some ⟨g, 0, none⟩) xs.length cap) xs.length (ys.map encNat) ∧ w.grownBy wr (some g))) (fun i _ _ => xs.length - (intOf i).toNat)
    case atStart => exact ⟨0, (xs.length : Int) - 1, rfl, rfl, by unfold Hid; omega, by omega, by omega, by omega, xs, RevAt.start xs, HO.out, ⟨rfl, rfl, rfl, Nat.le_refl _, fun _ _ _ => rfl⟩⟩
    case round =>
      obtain ⟨k, jj, rfl, rfl, HJ, hk, hj1, hj2, ys, HY⟩ := hrel
      by_cases hlt : (k : Int) < jj
      · obtain ⟨j, rfl⟩ : ∃ j : Nat, jj = j := ⟨jj.toNat, by omega⟩
        have hlen := HY.out.1.1
        have hj := HJ.out
        obtain ⟨x, hx⟩ : ∃ x, ys[k]? = some x := ⟨_, List.getElem?_eq_getElem (by omega)⟩
        obtain ⟨y, hy⟩ : ∃ y, ys[j]? = some y := ⟨_, List.getElem?_eq_getElem (by omega)⟩
        have hr := HY.out.2.1
        have g1 : wr.cell? ⟨g, k, none⟩ = some (.int .i64 (x : Int)) := (hr.cellAt k (by omega)).trans (by simp [hx, encNat])
        have g2 : wr.cell? ⟨g, j, none⟩ = some (.int .i64 (y : Int)) := (hr.cellAt j (by omega)).trans (by simp [hy, encNat])
        have f1 : wr.frozen? ⟨g, k, none⟩ = false := hr.frozenAt k
        have f2 : wr.frozen? ⟨g, j, none⟩ = false := hr.frozenAt j
        have hne : ¬ k = j := by omega
        have i1 : (k : Int) < xs.length := by omega
        have i2 : (j : Int) < xs.length := by omega
        have HXY := Lib.hid (And.intro hx hy)
        clear hlen hj hx hy hr
        go_wp2
        go_region
        go_wp2
        go_roundw
        case rel =>
          obtain ⟨hx, hy⟩ := HXY.out
          have hlen := HY.out.1.1
          have s1 := HY.out.2.1.stored k (encNat y)
          have s2 := s1.1.stored j (encNat x)
          refine ⟨k + 1, (j : Int) - 1, by go_num, rfl, by have := HJ.out; unfold Hid; omega, by omega, by omega, by omega, (ys.set k y).set j x, RevAt.step HY.out.1 (by have := HJ.out; omega) (by omega) hx hy, ?_, ?_⟩
          · have := s2.1
            rw [← List.map_set, ← List.map_set] at this
            exact this
          · exact grownBy_drew ((HY.out.2.2.trans s1.2).trans s2.2)
        case measure => simp [intOf]; omega
      · go_wp2
        go_end0
        have hd := HY.out.1.done (by have := HJ.out; omega)
        subst hd
        exact ⟨rfl, by rw [← List.map_reverse]; exact HY.out.2.1, HY.out.2.2⟩
end Go.Proofs.Ytpfinkcnklkclaa
