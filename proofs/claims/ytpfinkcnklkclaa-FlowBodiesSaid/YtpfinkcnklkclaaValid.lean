/-
  The walks of flow.Valid and vellumref06.Valid.
-/
import Derived.Test.YtpfinkcnklkclaaMem
import Derived.Test.YtpfinkcnklkclaaMath
set_option linter.unusedVariables false
set_option linter.unusedSimpArgs false
namespace Go.Proofs.Ytpfinkcnklkclaa
open Go.RowKit

def okS (n : Nat) (s : Int) : Bool := decide (0 ≤ s) && decide (s < (n : Int))
theorem validI_eq (g : List (List Int)) : validI g = g.all fun l => l.all (okS g.length) := rfl
theorem all_take_succ {α : Type} (p : α → Bool) (l : List α) (k : Nat) (x : α) (h : l[k]? = some x) (hp : (l.take k).all p = true) (hx : p x = true) : (l.take (k + 1)).all p = true := by
  rw [List.take_add_one, h]; simp [hp, hx]
theorem all_false_of {α : Type} (p : α → Bool) (l : List α) (k : Nat) (x : α) (h : l[k]? = some x) (hx : p x = false) : l.all p = false := by
  rw [List.all_eq_false]; exact ⟨x, List.mem_of_getElem? h, by simp [hx]⟩

set_option maxHeartbeats 800000 in
theorem flow_valid (w : World) (sv : Value) (g : List (List Int)) (B : Nat) (hB : B ≤ w.heap.size) (h : RowsOf encInt w B sv g) (hn : g.length ≤ 2000000) (hr : ∀ row ∈ g, row.length ≤ 2000000) :
    Calls Try.prog 18 #[.agg #[sv]] w fun e w' => e = .returned (.bool (decide (0 < g.length) && validI g)) ∧ Below w.heap.size w w' := by
  obtain ⟨a, cap, rfl, hcap⟩ := h.form
  have HR := Lib.hid hr; clear hr
  have hbel : Below w.heap.size w (w.alloc (.cells #[.slice a g.length cap] 24)) := (Below.refl _ _).alloc (Nat.le_refl _) _
  go_enter Try.func18, Try.ntmps18
  go_wp2
  go_loop [10] (fun i => ∃ k : Nat, k ≤ g.length ∧ i = .int .i64 k ∧ (g.take k).all (fun l => l.all (okS g.length)) = true) (fun i => g.length - (intOf i).toNat)
  case atStart => exact ⟨0, Nat.zero_le _, rfl, by simp⟩
  case round =>
    obtain ⟨k, hk, rfl, hall⟩ := hrel
    have HA := Lib.hid hall; clear hall
    by_cases hlt : k < g.length
    · obtain ⟨row, hrow⟩ : ∃ row, g[k]? = some row := ⟨_, List.getElem?_eq_getElem hlt⟩
      obtain ⟨b, o, a2, cap2, rfl, hb, hc, hcap2, hx⟩ := h.row hrow
      have hrl := HR.out row (List.mem_of_getElem? hrow)
      have hc1 : (w.alloc (.cells #[.slice (some ⟨b, o, none⟩) g.length cap] 24)).cell? ⟨b, o + k, none⟩ = some (.slice a2 row.length cap2) := (hbel.cell (p := ⟨b, o + k, none⟩) (show b < w.heap.size by omega)).trans hc
      have HROW := Lib.hid hrow; clear hrow
      have HX := Lib.hid hx; clear hx h hc
      have hlt1 : (k : Int) < g.length := by omega
      go_wp2
      go_loop [16] (fun i => ∃ j : Nat, j ≤ row.length ∧ i = .int .i64 j ∧ (row.take j).all (okS g.length) = true) (fun i => row.length - (intOf i).toNat)
      case atStart => exact ⟨0, Nat.zero_le _, rfl, by simp⟩
      case round =>
        obtain ⟨j, hj, rfl, hall2⟩ := hrel
        have HA2 := Lib.hid hall2; clear hall2
        by_cases hlt2 : j < row.length
        · obtain ⟨x, hxj⟩ : ∃ x, row[j]? = some x := ⟨_, List.getElem?_eq_getElem hlt2⟩
          obtain ⟨b2, o2, rfl, hb2, hc2⟩ := HX.out j x hxj
          simp only [encInt] at hc2
          have hc3 : (w.alloc (.cells #[.slice (some ⟨b, o, none⟩) g.length cap] 24)).cell? ⟨b2, o2 + j, none⟩ = some (.int .i64 x) := (hbel.cell (p := ⟨b2, o2 + j, none⟩) (show b2 < w.heap.size by omega)).trans hc2
          have HXJ := Lib.hid hxj; clear hxj hc2
          have hlt3 : (j : Int) < row.length := by omega
          by_cases hx0 : x < 0
          · have hf : validI g = false := all_false_of _ g k row HROW.out (all_false_of _ row j x HXJ.out (by simp [okS]; omega))
            have HF := Lib.hid hf; clear hf
            go_wp2
            go_ret
            exact ⟨by rw [HF.out]; simp, hbel⟩
          · by_cases hx1 : x < g.length
            · go_wp2
              go_round
              case rel => exact ⟨j + 1, by omega, by go_num, all_take_succ _ row j x HXJ.out HA2.out (by simp [okS]; omega)⟩
              case measure => simp [intOf]; omega
            · have hf : validI g = false := all_false_of _ g k row HROW.out (all_false_of _ row j x HXJ.out (by simp [okS]; omega))
              have HF := Lib.hid hf; clear hf
              go_wp2
              go_ret
              exact ⟨by rw [HF.out]; simp, hbel⟩
        · go_wp2
          go_round
          case rel => exact ⟨k + 1, by omega, by go_num, all_take_succ _ g k row HROW.out HA.out (by have := HA2.out; rwa [List.take_of_length_le (by omega)] at this)⟩
          case measure => simp [intOf]; omega
    · have hf : validI g = true := by have := HA.out; rwa [List.take_of_length_le (by omega)] at this
      have HF := Lib.hid hf; clear hf
      go_wp2
      go_ret
      exact ⟨by rw [HF.out]; simp, hbel⟩

set_option maxHeartbeats 1600000 in
theorem ref_valid (w : World) (sv : Value) (g : List (List Int)) (B : Nat) (hB : B ≤ w.heap.size) (h : RowsOf encInt w B sv g) (hn : g.length ≤ 2000000) (hr : ∀ row ∈ g, row.length ≤ 2000000) :
    Calls Try.prog 19 #[.agg #[sv]] w fun e w' => e = .returned (.bool (decide (0 < g.length) && validI g)) ∧ Below w.heap.size w w' := by
  obtain ⟨a, cap, rfl, hcap⟩ := h.form
  have HR := Lib.hid hr; clear hr
  have hbel : Below w.heap.size w (w.alloc (.cells #[.slice a g.length cap] 24)) := (Below.refl _ _).alloc (Nat.le_refl _) _
  have HBEL : ∀ n, Below w.heap.size w ((w.alloc (.cells #[.slice a g.length cap] 24)).drewN n) := fun n => hbel.trans (below_drewN0 _ _ _)
  have HB2 := Lib.hid HBEL; clear HBEL
  go_enter Try.func19, Try.ntmps19
  go_wp2
  go_loopw [3] (fun i wr => ∃ k : Nat, k ≤ g.length ∧ i = .int .i64 k ∧ (g.take k).all (fun l => l.all (okS g.length)) = true ∧ ∃ n, wr = (w.alloc (.cells #[.slice a g.length cap] 24)).drewN n) (fun i _ => g.length - (intOf i).toNat)
  case atStart => exact ⟨0, Nat.zero_le _, rfl, by simp, 0, rfl⟩
  case round =>
    obtain ⟨k, hk, rfl, hall, n, rfl⟩ := hrel
    have HA := Lib.hid hall; clear hall
    by_cases hlt : k < g.length
    · obtain ⟨row, hrow⟩ : ∃ row, g[k]? = some row := ⟨_, List.getElem?_eq_getElem hlt⟩
      obtain ⟨b, o, a2, cap2, rfl, hb, hc, hcap2, hx⟩ := h.row hrow
      have hrl := HR.out row (List.mem_of_getElem? hrow)
      have hc1 : (w.alloc (.cells #[.slice (some ⟨b, o, none⟩) g.length cap] 24)).cell? ⟨b, o + k, none⟩ = some (.slice a2 row.length cap2) := (hbel.cell (p := ⟨b, o + k, none⟩) (show b < w.heap.size by omega)).trans hc
      have HROW := Lib.hid hrow; clear hrow
      have HX := Lib.hid hx; clear hx h hc
      have hlt1 : (k : Int) < g.length := by omega
      go_wp2
      go_loopw [4] (fun i wr => ∃ j : Nat, j ≤ row.length ∧ i = .int .i64 j ∧ (row.take j).all (okS g.length) = true ∧ ∃ n, wr = (w.alloc (.cells #[.slice (some ⟨b, o, none⟩) g.length cap] 24)).drewN n) (fun i _ => row.length - (intOf i).toNat)
      case atStart => exact ⟨0, Nat.zero_le _, rfl, by simp, _, rfl⟩
      case round =>
        obtain ⟨j, hj, rfl, hall2, n2, rfl⟩ := hrel
        have HA2 := Lib.hid hall2; clear hall2
        by_cases hlt2 : j < row.length
        · obtain ⟨x, hxj⟩ : ∃ x, row[j]? = some x := ⟨_, List.getElem?_eq_getElem hlt2⟩
          obtain ⟨b2, o2, rfl, hb2, hc2⟩ := HX.out j x hxj
          simp only [encInt] at hc2
          have hc3 : (w.alloc (.cells #[.slice (some ⟨b, o, none⟩) g.length cap] 24)).cell? ⟨b2, o2 + j, none⟩ = some (.int .i64 x) := (hbel.cell (p := ⟨b2, o2 + j, none⟩) (show b2 < w.heap.size by omega)).trans hc2
          have HXJ := Lib.hid hxj; clear hxj hc2
          have hlt3 : (j : Int) < row.length := by omega
          by_cases hx0 : x < 0
          · have hf : validI g = false := all_false_of _ g k row HROW.out (all_false_of _ row j x HXJ.out (by simp [okS]; omega))
            have HF := Lib.hid hf; clear hf
            have hd : decide (x < 0) = true := by simpa using hx0
            go_wp2
            go_quiet (fail)
            go_wp2
            go_ret
            exact ⟨by rw [HF.out]; simp, by simpa using HB2.out _⟩
          · have hd : decide (x < 0) = false := by simpa using hx0
            by_cases hx1 : x < g.length
            · go_wp2
              go_quiet (fail)
              go_wp2
              go_roundw
              case rel => exact ⟨j + 1, by omega, by go_num, all_take_succ _ row j x HXJ.out HA2.out (by simp [okS]; omega), _, rfl⟩
              case measure => simp [intOf]; omega
            · have hf : validI g = false := all_false_of _ g k row HROW.out (all_false_of _ row j x HXJ.out (by simp [okS]; omega))
              have HF := Lib.hid hf; clear hf
              go_wp2
              go_quiet (fail)
              go_wp2
              go_ret
              exact ⟨by rw [HF.out]; simp, by simpa using HB2.out _⟩
        · go_wp2
          go_roundw
          case rel => exact ⟨k + 1, by omega, by go_num, all_take_succ _ g k row HROW.out HA.out (by have := HA2.out; rwa [List.take_of_length_le (by omega)] at this), _, rfl⟩
          case measure => simp [intOf]; omega
    · have hf : validI g = true := by have := HA.out; rwa [List.take_of_length_le (by omega)] at this
      have HF := Lib.hid hf; clear hf
      go_wp2
      go_ret
      exact ⟨by rw [HF.out]; simp, HB2.out _⟩
end Go.Proofs.Ytpfinkcnklkclaa
