/-
  The reference's arithmetic: signed, bit, Arith.
-/
import Derived.Test.YtojclalkfhoooaaGICkF
set_option linter.unusedVariables false
set_option linter.unusedSimpArgs false
namespace Go.Proofs.Ytojclalkfhoooaa
open Go.RowKit

theorem signed_any (a : Nat) (ha : a < 65536) (w : World) : Calls Try.prog 55 #[.int .u16 (a : Int)] w fun e w' => e = .returned (.int .i64 (s16 a)) ∧ w = w' := by
  by_cases h : a < 32768
  · have t1 : decide ((32768 : Int) ≤ (a : Int)) = false := decide_eq_false (by omega)
    have t2 : decide (32768 ≤ a) = false := decide_eq_false (by omega)
    have e : s16 a = (a : Int) := by unfold s16; rw [if_pos h]
    rw [e]
    clear h e
    go_enter Try.func55, Try.ntmps55
    go_wp2
    go_ret
    refine ⟨ret_int ?_, rfl⟩
    omega
  · have t1 : decide ((32768 : Int) ≤ (a : Int)) = true := decide_eq_true (by omega)
    have t2 : decide (32768 ≤ a) = true := decide_eq_true (by omega)
    have e : s16 a = (a : Int) - 65536 := by unfold s16; rw [if_neg h]
    rw [e]
    clear h e
    go_enter Try.func55, Try.ntmps55
    go_wp2
    go_ret
    refine ⟨ret_int ?_, rfl⟩
    omega
theorem bit_any (b : Bool) (w : World) : Calls Try.prog 56 #[.bool b] w fun e w' => e = .returned (.int .u16 (bitN b : Nat)) ∧ w = w' := by
  cases b <;> go_enter Try.func56, Try.ntmps56 <;> go_wp2 <;> go_ret <;> exact ⟨rfl, rfl⟩
theorem and15 (b : Nat) (hb : b < 65536) : bits .and .u16 (b : Int) 15 = ((b % 16 : Nat) : Int) := by
  have h := (bits_nat .u16 16 (by decide) wraps_u16 b 15 hb (by decide)).1
  rw [show ((15 : Nat) : Int) = 15 from rfl] at h
  rw [h]
  congr 1
  have := Nat.and_two_pow_sub_one_eq_mod b 4
  simpa using this

set_option maxHeartbeats 400000 in
theorem rarith_5 (a b : Nat) (ha : a < 65536) (hb : b < 65536) (w : World) : Calls Try.prog 35 #[.int .i64 5, .int .u16 (a : Int), .int .u16 (b : Int)] w fun e w' => e = .returned (.int .u16 (arithN 5 a b : Nat)) ∧ w = w' := by
  go_enter Try.func35, Try.ntmps35
  go_wp2
  all_goals go_ret
  all_goals refine ⟨ret_int ?_, rfl⟩
  all_goals exact ar5 a b
set_option maxHeartbeats 400000 in
theorem rarith_6 (a b : Nat) (ha : a < 65536) (hb : b < 65536) (w : World) : Calls Try.prog 35 #[.int .i64 6, .int .u16 (a : Int), .int .u16 (b : Int)] w fun e w' => e = .returned (.int .u16 (arithN 6 a b : Nat)) ∧ w = w' := by
  go_enter Try.func35, Try.ntmps35
  go_wp2
  all_goals go_ret
  all_goals refine ⟨ret_int ?_, rfl⟩
  all_goals exact ar6 a b hb
set_option maxHeartbeats 400000 in
theorem rarith_7 (a b : Nat) (ha : a < 65536) (hb : b < 65536) (w : World) : Calls Try.prog 35 #[.int .i64 7, .int .u16 (a : Int), .int .u16 (b : Int)] w fun e w' => e = .returned (.int .u16 (arithN 7 a b : Nat)) ∧ w = w' := by
  go_enter Try.func35, Try.ntmps35
  go_wp2
  all_goals go_ret
  all_goals refine ⟨ret_int ?_, rfl⟩
  all_goals exact ar7 a b
set_option maxHeartbeats 400000 in
theorem rarith_8 (a b : Nat) (ha : a < 65536) (hb : b < 65536) (h0 : b ≠ 0) (w : World) : Calls Try.prog 35 #[.int .i64 8, .int .u16 (a : Int), .int .u16 (b : Int)] w fun e w' => e = .returned (.int .u16 (arithN 8 a b : Nat)) ∧ w = w' := by
  have h1 : ((b : Int) == 0) = false := by rw [beq_eq_false_iff_ne]; omega
  have h2 : ¬ (b : Int) = 0 := by omega
  clear h0
  go_enter Try.func35, Try.ntmps35
  go_wp2
  all_goals go_ret
  all_goals refine ⟨ret_int ?_, rfl⟩
  all_goals exact ar8 a b ha
set_option maxHeartbeats 400000 in
theorem rarith_9 (a b : Nat) (ha : a < 65536) (hb : b < 65536) (w : World) : Calls Try.prog 35 #[.int .i64 9, .int .u16 (a : Int), .int .u16 (b : Int)] w fun e w' => e = .returned (.int .u16 (arithN 9 a b : Nat)) ∧ w = w' := by
  go_enter Try.func35, Try.ntmps35
  go_wp2
  all_goals go_ret
  all_goals refine ⟨ret_int ?_, rfl⟩
  all_goals exact ar9 a b ha hb
set_option maxHeartbeats 400000 in
theorem rarith_10 (a b : Nat) (ha : a < 65536) (hb : b < 65536) (w : World) : Calls Try.prog 35 #[.int .i64 10, .int .u16 (a : Int), .int .u16 (b : Int)] w fun e w' => e = .returned (.int .u16 (arithN 10 a b : Nat)) ∧ w = w' := by
  go_enter Try.func35, Try.ntmps35
  go_wp2
  all_goals go_ret
  all_goals refine ⟨ret_int ?_, rfl⟩
  all_goals exact ar10 a b ha hb
set_option maxHeartbeats 400000 in
theorem rarith_11 (a b : Nat) (ha : a < 65536) (hb : b < 65536) (w : World) : Calls Try.prog 35 #[.int .i64 11, .int .u16 (a : Int), .int .u16 (b : Int)] w fun e w' => e = .returned (.int .u16 (arithN 11 a b : Nat)) ∧ w = w' := by
  go_enter Try.func35, Try.ntmps35
  go_wp2
  all_goals go_ret
  all_goals refine ⟨ret_int ?_, rfl⟩
  all_goals exact ar11 a b ha hb
set_option maxHeartbeats 400000 in
theorem rarith_12 (a b : Nat) (ha : a < 65536) (hb : b < 65536) (w : World) : Calls Try.prog 35 #[.int .i64 12, .int .u16 (a : Int), .int .u16 (b : Int)] w fun e w' => e = .returned (.int .u16 (arithN 12 a b : Nat)) ∧ w = w' := by
  have h15 := and15 b hb
  go_enter Try.func35, Try.ntmps35
  go_wp2
  all_goals go_ret
  all_goals refine ⟨ret_int ?_, rfl⟩
  all_goals exact ar12 a b
set_option maxHeartbeats 400000 in
theorem rarith_13 (a b : Nat) (ha : a < 65536) (hb : b < 65536) (w : World) : Calls Try.prog 35 #[.int .i64 13, .int .u16 (a : Int), .int .u16 (b : Int)] w fun e w' => e = .returned (.int .u16 (arithN 13 a b : Nat)) ∧ w = w' := by
  have h15 := and15 b hb
  go_enter Try.func35, Try.ntmps35
  go_wp2
  all_goals go_ret
  all_goals refine ⟨ret_int ?_, rfl⟩
  all_goals exact ar13 a b
set_option maxHeartbeats 400000 in
theorem rarith_15 (a b : Nat) (ha : a < 65536) (hb : b < 65536) (w : World) : Calls Try.prog 35 #[.int .i64 15, .int .u16 (a : Int), .int .u16 (b : Int)] w fun e w' => e = .returned (.int .u16 (arithN 15 a b : Nat)) ∧ w = w' := by
  go_enter Try.func35, Try.ntmps35
  go_wp2_with (go_at_call 56; go_must (refine (bit_any _ _).mono ?_; rintro e w' ⟨rfl, rfl⟩))
  all_goals go_ret
  all_goals refine ⟨ret_int ?_, rfl⟩
  all_goals exact congrArg _ (ar15 a b)
set_option maxHeartbeats 400000 in
theorem rarith_16 (a b : Nat) (ha : a < 65536) (hb : b < 65536) (w : World) : Calls Try.prog 35 #[.int .i64 16, .int .u16 (a : Int), .int .u16 (b : Int)] w fun e w' => e = .returned (.int .u16 (arithN 16 a b : Nat)) ∧ w = w' := by
  go_enter Try.func35, Try.ntmps35
  go_wp2_with (go_at_call 56; go_must (refine (bit_any _ _).mono ?_; rintro e w' ⟨rfl, rfl⟩))
  all_goals go_ret
  all_goals refine ⟨ret_int ?_, rfl⟩
  all_goals exact rfl
set_option maxHeartbeats 400000 in
theorem rarith_17 (a b : Nat) (ha : a < 65536) (hb : b < 65536) (w : World) : Calls Try.prog 35 #[.int .i64 17, .int .u16 (a : Int), .int .u16 (b : Int)] w fun e w' => e = .returned (.int .u16 (arithN 17 a b : Nat)) ∧ w = w' := by
  have m1 : True := trivial
  go_enter Try.func35, Try.ntmps35
  go_wp2_with (first | (go_at_call 56; go_must (refine (bit_any _ _).mono ?_; rintro e w' ⟨rfl, rfl⟩)) | (go_at_call 55; have gate := m1; clear m1; go_must (refine (signed_any a ha _).mono ?_; rintro e w' ⟨rfl, rfl⟩)) | (go_at_call 55; go_must (refine (signed_any b hb _).mono ?_; rintro e w' ⟨rfl, rfl⟩)))
  all_goals go_ret
  all_goals refine ⟨ret_int ?_, rfl⟩
  all_goals exact rfl
/-- What k halvings leave. -/
theorem halve_neg (x : Int) (h : x < 0) : (x - 1).tdiv 2 = x / 2 := by
  rw [Int.tdiv_eq_ediv]
  split
  · omega
  · have : Int.sign 2 = 1 := rfl
    omega
theorem halve_pos (x : Int) (h : 0 ≤ x) : x.tdiv 2 = x / 2 := Int.tdiv_eq_ediv_of_nonneg h
theorem halves (x : Int) (k : Nat) : x / 2 ^ (k + 1) = (x / 2 ^ k) / 2 := by
  rw [Int.pow_succ, Int.ediv_ediv_of_nonneg (Int.pow_nonneg (by decide))]
theorem halves_range {x : Int} (h : -32768 ≤ x ∧ x < 32768) : ∀ k : Nat, -32768 ≤ x / 2 ^ k ∧ x / 2 ^ k < 32768
  | 0 => by simpa using h
  | k + 1 => by have := halves_range h k; rw [halves]; omega
set_option maxHeartbeats 800000 in
theorem rarith_14 (a b : Nat) (ha : a < 65536) (hb : b < 65536) (w : World) : Calls Try.prog 35 #[.int .i64 14, .int .u16 (a : Int), .int .u16 (b : Int)] w fun e w' => e = .returned (.int .u16 (arithN 14 a b : Nat)) ∧ w = w' := by
  have h15 := and15 b hb
  have hr := s16_range a ha
  have HR := Lib.hid hr
  have hm : b % 16 < 16 := Nat.mod_lt _ (by decide)
  obtain ⟨n, hn⟩ : ∃ n, b % 16 = n := ⟨_, rfl⟩
  rw [hn] at h15 hm
  have HN := Lib.hid hn
  clear hr hn
  generalize hW : w = W0
  clear hW
  go_enter Try.func35, Try.ntmps35
  go_wp2_with (first | (go_at_call 55; go_must (refine (signed_any a ha _).mono ?_; rintro e w' ⟨rfl, rfl⟩)))
  have h0 : s16 a = s16 a / 2 ^ 0 := by simp
  have H0 := Lib.hid h0
  clear h0
  go_loopw [7, 8] (fun xv kv wx => ∃ (k : Nat) (x : Int), k ≤ n ∧ xv = .int .i64 x ∧ kv = .int .i64 (k : Int) ∧ W0 = wx ∧ Hid (x = s16 a / 2 ^ k)) (fun _ kv _ => n - (intOf kv).toNat)
  case atStart => exact ⟨0, s16 a, Nat.zero_le _, rfl, rfl, rfl, H0⟩
  case round =>
    obtain ⟨k, x, hk, rfl, rfl, rfl, HX⟩ := hrel
    have hxr : -32768 ≤ x ∧ x < 32768 := by rw [HX.out]; exact halves_range HR.out k
    obtain ⟨hx1, hx2⟩ := hxr
    by_cases hlt : k < n
    · have hltI : (k : Int) < n := by omega
      have HLT := Lib.hid hlt
      by_cases hn : x < 0
      · have t1 : decide (x < 0) = true := decide_eq_true hn
        have HN := Lib.hid hn
        clear hlt hn
        go_wp2
        go_roundw
        case rel =>
          refine ⟨k + 1, x / 2, HLT.out, ?_, by go_num, by trivial, Lib.hid (by rw [halves, ← HX.out])⟩
          have e := halve_neg x HN.out
          first | (rw [e]; congr 1; omega) | (rw [show x - 1 = x - 1 from rfl, e]) | (congr 1 <;> simp [e])
        case measure => have := HLT.out; simp [intOf]; omega
      · have t1 : decide (x < 0) = false := decide_eq_false hn
        have HN := Lib.hid (show 0 ≤ x by omega)
        clear hlt hn
        go_wp2
        go_roundw
        case rel =>
          refine ⟨k + 1, x / 2, HLT.out, ?_, by go_num, by trivial, Lib.hid (by rw [halves, ← HX.out])⟩
          have e := halve_pos x HN.out
          first | (rw [e]; congr 1; omega) | (congr 1 <;> simp [e])
        case measure => have := HLT.out; simp [intOf]; omega
    · obtain rfl : k = n := by omega
      have hltI : ¬ (k : Int) < k := by omega
      clear hlt
      go_wp2
      go_ret
      refine ⟨ret_int ?_, rfl⟩
      rw [HX.out, wrap16]
      show _ = ((((s16 a / 2 ^ (b % 16)) % 65536).toNat : Nat) : Int)
      rw [HN.out]
      omega
/-- The reference's Arith, at every code. -/
theorem rarith_any (c : Int) (hc : 5 ≤ c ∧ c ≤ 17) (a b : Nat) (ha : a < 65536) (hb : b < 65536) (h0 : c = 8 → b ≠ 0) (w : World) : Calls Try.prog 35 #[.int .i64 c, .int .u16 (a : Int), .int .u16 (b : Int)] w fun e w' => e = .returned (.int .u16 (arithN c a b : Nat)) ∧ w = w' := by
  have h : c = 5 ∨ c = 6 ∨ c = 7 ∨ c = 8 ∨ c = 9 ∨ c = 10 ∨ c = 11 ∨ c = 12 ∨ c = 13 ∨ c = 14 ∨ c = 15 ∨ c = 16 ∨ c = 17 := by omega
  rcases h with rfl | rfl | rfl | rfl | rfl | rfl | rfl | rfl | rfl | rfl | rfl | rfl | rfl
  · exact rarith_5 a b ha hb w
  · exact rarith_6 a b ha hb w
  · exact rarith_7 a b ha hb w
  · exact rarith_8 a b ha hb (h0 rfl) w
  · exact rarith_9 a b ha hb w
  · exact rarith_10 a b ha hb w
  · exact rarith_11 a b ha hb w
  · exact rarith_12 a b ha hb w
  · exact rarith_13 a b ha hb w
  · exact rarith_14 a b ha hb w
  · exact rarith_15 a b ha hb w
  · exact rarith_16 a b ha hb w
  · exact rarith_17 a b ha hb w
end Go.Proofs.Ytojclalkfhoooaa
