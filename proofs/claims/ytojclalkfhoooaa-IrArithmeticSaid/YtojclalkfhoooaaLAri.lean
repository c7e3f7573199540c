/-
  The law IrArithmetic, walked.
-/
import Derived.Test.YtojclalkfhoooaaISan
import Derived.Test.YtojclalkfhoooaaRAr
set_option linter.unusedVariables false
set_option linter.unusedSimpArgs false
namespace Go.Proofs.Ytojclalkfhoooaa
open Go.RowKit

theorem i64_r (x : Int) (h1 : -100 ≤ x) (h2 : x ≤ 100) : I64 x := ⟨by omega, by omega⟩
theorem i64_c (x : Int) (h : (decide (-100 ≤ x) && decide (x ≤ 100)) = true) : I64 x := by
  simp only [Bool.and_eq_true, decide_eq_true_eq] at h
  exact i64_r x h.1 h.2
def arOps (c : Int) (a b : Nat) : List (IOp × Value) := [(⟨1, 0, 0, 0, a, []⟩, .slice none 0 0), (⟨1, 1, 0, 0, b, []⟩, .slice none 0 0), (⟨c, 2, 0, 1, 0, []⟩, .slice none 0 0), (⟨3, 3, 2, 0, 0, []⟩, .slice none 0 0), (⟨4, 4, 3, 0, 0, []⟩, .slice none 0 0)]
def arP (c : Int) (a b : Nat) : IProg := smallP ⟨4, 4, []⟩ ((arOps c a b).map (·.1))
theorem arOps_ok {c : Int} (hc : 5 ≤ c ∧ c ≤ 17) {a b : Nat} (ha : a < 65536) (hb : b < 65536) : opsNil (arOps c a b) := by
  intro q hq
  simp only [arOps, List.mem_cons, List.not_mem_nil, or_false] at hq
  rcases hq with rfl | rfl | rfl | rfl | rfl
  · exact ⟨⟨i64_c _ rfl, i64_c _ rfl, i64_c _ rfl, i64_c _ rfl, ha⟩, rfl, rfl⟩
  · exact ⟨⟨i64_c _ rfl, i64_c _ rfl, i64_c _ rfl, i64_c _ rfl, hb⟩, rfl, rfl⟩
  · exact ⟨⟨i64_r _ (by show -100 ≤ c; omega) (by show c ≤ 100; omega), i64_c _ rfl, i64_c _ rfl, i64_c _ rfl, (by show 0 < 65536; omega)⟩, rfl, rfl⟩
  · exact ⟨⟨i64_c _ rfl, i64_c _ rfl, i64_c _ rfl, i64_c _ rfl, (by show 0 < 65536; omega)⟩, rfl, rfl⟩
  · exact ⟨⟨i64_c _ rfl, i64_c _ rfl, i64_c _ rfl, i64_c _ rfl, (by show 0 < 65536; omega)⟩, rfl, rfl⟩
theorem arP_valid {c : Int} (hc : 5 ≤ c ∧ c ≤ 17) (a b : Nat) : validF (arP c a b) = 0 := by
  have h : c = 5 ∨ c = 6 ∨ c = 7 ∨ c = 8 ∨ c = 9 ∨ c = 10 ∨ c = 11 ∨ c = 12 ∨ c = 13 ∨ c = 14 ∨ c = 15 ∨ c = 16 ∨ c = 17 := by omega
  rcases h with rfl | rfl | rfl | rfl | rfl | rfl | rfl | rfl | rfl | rfl | rfl | rfl | rfl <;> rfl
def arR (c : Int) (a b : Nat) : IRun := if c = 8 ∧ b = 0 then ⟨0, [], 4, 0, ramOf ⟨#[]⟩, 0, 0⟩ else ⟨65535 - (65536 - arithN c a b) % 65536, [], 6, 0, ramOf ⟨#[]⟩, 0, 0⟩
set_option maxRecDepth 100000 in
theorem arP_run {c : Int} (hc : 5 ≤ c ∧ c ≤ 17) (a b : Nat) : evalF ⟨arP c a b, [], []⟩ 0 [] ⟨#[]⟩ 10 = arR c a b := by
  have hask : askF (arP c a b) 0 [] = true := by
    unfold askF
    rw [arP_valid hc a b]; rfl
  refine (if_pos hask).trans ?_
  unfold arR
  have h : c = 5 ∨ c = 6 ∨ c = 7 ∨ c = 8 ∨ c = 9 ∨ c = 10 ∨ c = 11 ∨ c = 12 ∨ c = 13 ∨ c = 14 ∨ c = 15 ∨ c = 16 ∨ c = 17 := by omega
  rcases h with rfl | rfl | rfl | rfl | rfl | rfl | rfl | rfl | rfl | rfl | rfl | rfl | rfl
  case inr.inr.inr.inl =>
    cases b with
    | zero => rfl
    | succ b => rfl
  all_goals rfl
set_option maxHeartbeats 4000000 in
set_option maxRecDepth 100000 in
theorem law_arith (w : World) (o a b : Nat) (ho : o < 256) (ha : a < 65536) (hb : b < 65536) :
    Calls Try.prog 13 #[.int .u8 (o : Int), .int .u16 (a : Int), .int .u16 (b : Int)] w fun e w' => e = .returned (.bool true) ∧ Below w.heap.size w w' := by
  obtain ⟨S, hS⟩ : ∃ S, ramStr (ramOf ⟨#[]⟩) = S := ⟨_, rfl⟩
  have HS := Lib.hid hS
  have HAB := Lib.hid (And.intro ha hb)
  clear hS
  go_enter Try.func13, Try.ntmps13
  go_upto_region 3 with (go_at_call 17; go_must (refine (sanity_any _).mono ?_; rintro e w0 ⟨rfl, hb0⟩))
  have hc5 : 5 ≤ 5 + (o : Int) % 13 ∧ 5 + (o : Int) % 13 ≤ 17 := by omega
  generalize 5 + (o : Int) % 13 = c at *
  have HB0 := Lib.hid hb0
  have HC := Lib.hid hc5
  clear hb0 hc5 ha hb ho
  go_upto_region 4 with (go_at_call 32; go_must (refine (small_lit (l := arOps c a b) (new_at rfl) (arOps_ok HC.out HAB.out.1 HAB.out.2) (by show 5 ≤ 1000000; decide) ⟨⟨by decide, by decide⟩, ⟨by decide, by decide⟩⟩ rfl).mono ?_; rintro e w1 ⟨f1, g1, a1, b1, d1, e1, h1, i1, rfl, hp, hb⟩))
  have hx : (w1.alloc (.cells #[.slice f1 1 g1, .slice a1 1 b1, .int .i64 0, .int .i64 (-1), .slice d1 0 e1, .slice h1 0 i1] 29)).heap[w1.heap.size]? = some (.cells #[.slice f1 1 g1, .slice a1 1 b1, .int .i64 0, .int .i64 (-1), .slice d1 0 e1, .slice h1 0 i1] 29 (0, 0)) := new_at rfl
  have hba := (Below.refl w1.heap.size w1).alloc (Nat.le_refl _) (.cells #[.slice f1 1 g1, .slice a1 1 b1, .int .i64 0, .int .i64 (-1), .slice d1 0 e1, .slice h1 0 i1] 29)
  have hpx := (hp.below hba).mono hba.size
  have hbx := ((Below.refl w0.heap.size w0).alloc (Nat.le_refl _) _).trans ((hb.trans (hba.mono hb.size)).mono (by simp))
  generalize hW : w1.alloc (.cells #[.slice f1 1 g1, .slice a1 1 b1, .int .i64 0, .int .i64 (-1), .slice d1 0 e1, .slice h1 0 i1] 29) = P1 at *
  generalize hc : w1.heap.size = c1 at *
  have HP1 := Lib.hid (show Below w0.heap.size w0 P1 ∧ ProgIn P1 P1.heap.size ⟨.slice f1 1 g1, .slice a1 1 b1, .slice d1 0 e1, .slice h1 0 i1⟩ (arP c a b) ∧ P1.heap[c1]? = some (.cells #[.slice f1 1 g1, .slice a1 1 b1, .int .i64 0, .int .i64 (-1), .slice d1 0 e1, .slice h1 0 i1] 29 (0, 0)) from ⟨hbx, hpx, hx⟩)
  clear hb hp hx hba hpx hbx hW hc
  by_cases hd : c = 8 ∧ b = 0
  · obtain ⟨rfl, rfl⟩ := hd
    have hrun := arP_run HC.out a 0
    rw [show arR 8 a 0 = ⟨0, [], 4, 0, ramOf ⟨#[]⟩, 0, 0⟩ from rfl] at hrun
    have HRUN := Lib.hid hrun
    clear hrun
    have t0 : True := trivial
    have hev : ∀ (W : World), Below P1.heap.size P1 W → Calls Try.prog 23 #[.agg #[.slice f1 1 g1, .slice a1 1 b1, .int .i64 0, .int .i64 (-1), .slice d1 0 e1, .slice h1 0 i1], .int .i64 0, .slice none 0 0, .string ⟨#[]⟩, .agg #[.slice none 0 0, .slice none 0 0], .int .i64 10] W (fun e w' => ∃ oa1 oc1, e = .returned (.agg #[.int .u16 0, .slice oa1 0 oc1, .int .i64 4, .int .u16 0, .string S, .int .i64 0, .int .i64 0]) ∧ EventsIn w' w'.heap.size (.slice oa1 0 oc1) [] ∧ Below W.heap.size W w') := fun W hb => by
      have := (eval_any ((HP1.out.2.1.below hb).mono hb.size) (small_sized (t := ⟨4, 4, []⟩) (by show 5 ≤ 2000000; decide) (by decide)) 0 i64_zero Elems.nil ⟨#[]⟩ (by decide) Elems.nil Elems.nil 10 ⟨by decide, by decide⟩ (by decide)).mono (fun e w' h => h.open)
      rw [HRUN.out] at this
      rw [← HS.out]
      exact this
    have HEV := Lib.hid hev
    clear hev
    have x0 : P1.cell? ⟨c1, 0, none⟩ = some (.slice f1 1 g1) := cell_of_blk HP1.out.2.2 (by simp)
    have x1 : P1.cell? ⟨c1, 1, none⟩ = some (.slice a1 1 b1) := cell_of_blk HP1.out.2.2 (by simp)
    have x2 : P1.cell? ⟨c1, 2, none⟩ = some (.int .i64 0) := cell_of_blk HP1.out.2.2 (by simp)
    have x3 : P1.cell? ⟨c1, 3, none⟩ = some (.int .i64 (-1)) := cell_of_blk HP1.out.2.2 (by simp)
    have x4 : P1.cell? ⟨c1, 4, none⟩ = some (.slice d1 0 e1) := cell_of_blk HP1.out.2.2 (by simp)
    have x5 : P1.cell? ⟨c1, 5, none⟩ = some (.slice h1 0 i1) := cell_of_blk HP1.out.2.2 (by simp)
    go_upto_region 5 with (go_at_call 23; go_must (refine (HEV.out _ (Below.refl _ _)).mono ?_; rintro e w1 ⟨oa1, oc1, rfl, ho, hb⟩))
    clear x0 x1 x2 x3 x4 x5
    have hx : (w1.alloc (.cells #[.int .u16 0, .slice oa1 0 oc1, .int .i64 4, .int .u16 0, .string S, .int .i64 0, .int .i64 0] 57)).heap[w1.heap.size]? = some (.cells #[.int .u16 0, .slice oa1 0 oc1, .int .i64 4, .int .u16 0, .string S, .int .i64 0, .int .i64 0] 57 (0, 0)) := new_at rfl
    have hba := (Below.refl w1.heap.size w1).alloc (Nat.le_refl _) (.cells #[.int .u16 0, .slice oa1 0 oc1, .int .i64 4, .int .u16 0, .string S, .int .i64 0, .int .i64 0] 57)
    have hox := (ho.below evR_stable hba).mono evR_stable hba.size
    have hbx : Below P1.heap.size P1 _ := hb.trans (hba.mono hb.size)
    generalize hW : w1.alloc (.cells #[.int .u16 0, .slice oa1 0 oc1, .int .i64 4, .int .u16 0, .string S, .int .i64 0, .int .i64 0] 57) = R1 at *
    generalize hc : w1.heap.size = r1 at *
    have HR1 := Lib.hid (show Below P1.heap.size P1 R1 ∧ EventsIn R1 R1.heap.size (.slice oa1 0 oc1) [] ∧ R1.heap[r1]? = some (.cells #[.int .u16 0, .slice oa1 0 oc1, .int .i64 4, .int .u16 0, .string S, .int .i64 0, .int .i64 0] 57 (0, 0)) from ⟨hbx, hox, hx⟩)
    clear hb ho hx hba hox hbx hW hc HEV
    have hr1 := HR1.out.2.2
    have y0 : R1.cell? ⟨r1, 0, none⟩ = some (.int .u16 0) := cell_of_blk hr1 (by simp)
    have y1 : R1.cell? ⟨r1, 1, none⟩ = some (.slice oa1 0 oc1) := cell_of_blk hr1 (by simp)
    have y2 : R1.cell? ⟨r1, 2, none⟩ = some (.int .i64 4) := cell_of_blk hr1 (by simp)
    have y3 : R1.cell? ⟨r1, 3, none⟩ = some (.int .u16 0) := cell_of_blk hr1 (by simp)
    have y4 : R1.cell? ⟨r1, 4, none⟩ = some (.string S) := cell_of_blk hr1 (by simp)
    have y5 : R1.cell? ⟨r1, 5, none⟩ = some (.int .i64 0) := cell_of_blk hr1 (by simp)
    have y6 : R1.cell? ⟨r1, 6, none⟩ = some (.int .i64 0) := cell_of_blk hr1 (by simp)
    have hkw := Lib.hid (HB0.out.trans ((HP1.out.1.trans (HR1.out.1.mono HP1.out.1.size)).mono HB0.out.size))
    clear hr1 HR1 HP1
    go_wp2
    go_ret
    exact ⟨rfl, hkw.out⟩
  · have hrun := arP_run HC.out a b
    unfold arR at hrun
    rw [if_neg hd] at hrun
    have hv : IntKind.u16.wrap ((arithN c a b : Nat) - 1 : Int) = ((65535 - (65536 - arithN c a b) % 65536 : Nat) : Int) := by
      have := arithN_lt c a b HAB.out.1 HAB.out.2
      rw [wrap16]
      omega
    obtain ⟨v, hve⟩ : ∃ v, 65535 - (65536 - arithN c a b) % 65536 = v := ⟨_, rfl⟩
    rw [hve] at hrun hv
    have HRUN := Lib.hid hrun
    have HV := Lib.hid hv
    have hra := rarith_any c HC.out a b HAB.out.1 HAB.out.2 (fun h8 hb0 => hd ⟨h8, hb0⟩)
    have HRA := Lib.hid hra
    have HD := Lib.hid hd
    clear hrun hra hd hv hve
    have t0 : True := trivial
    have hev : ∀ (W : World), Below P1.heap.size P1 W → Calls Try.prog 23 #[.agg #[.slice f1 1 g1, .slice a1 1 b1, .int .i64 0, .int .i64 (-1), .slice d1 0 e1, .slice h1 0 i1], .int .i64 0, .slice none 0 0, .string ⟨#[]⟩, .agg #[.slice none 0 0, .slice none 0 0], .int .i64 10] W (fun e w' => ∃ oa1 oc1, e = .returned (.agg #[.int .u16 (v : Int), .slice oa1 0 oc1, .int .i64 6, .int .u16 0, .string S, .int .i64 0, .int .i64 0]) ∧ EventsIn w' w'.heap.size (.slice oa1 0 oc1) [] ∧ Below W.heap.size W w') := fun W hb => by
      have := (eval_any ((HP1.out.2.1.below hb).mono hb.size) (small_sized (t := ⟨4, 4, []⟩) (by show 5 ≤ 2000000; decide) (by decide)) 0 i64_zero Elems.nil ⟨#[]⟩ (by decide) Elems.nil Elems.nil 10 ⟨by decide, by decide⟩ (by decide)).mono (fun e w' h => h.open)
      rw [HRUN.out] at this
      rw [← HS.out]
      exact this
    have HEV := Lib.hid hev
    clear hev
    have x0 : P1.cell? ⟨c1, 0, none⟩ = some (.slice f1 1 g1) := cell_of_blk HP1.out.2.2 (by simp)
    have x1 : P1.cell? ⟨c1, 1, none⟩ = some (.slice a1 1 b1) := cell_of_blk HP1.out.2.2 (by simp)
    have x2 : P1.cell? ⟨c1, 2, none⟩ = some (.int .i64 0) := cell_of_blk HP1.out.2.2 (by simp)
    have x3 : P1.cell? ⟨c1, 3, none⟩ = some (.int .i64 (-1)) := cell_of_blk HP1.out.2.2 (by simp)
    have x4 : P1.cell? ⟨c1, 4, none⟩ = some (.slice d1 0 e1) := cell_of_blk HP1.out.2.2 (by simp)
    have x5 : P1.cell? ⟨c1, 5, none⟩ = some (.slice h1 0 i1) := cell_of_blk HP1.out.2.2 (by simp)
    go_upto_region 5 with (go_at_call 23; go_must (refine (HEV.out _ (Below.refl _ _)).mono ?_; rintro e w1 ⟨oa1, oc1, rfl, ho, hb⟩))
    clear x0 x1 x2 x3 x4 x5
    have hx : (w1.alloc (.cells #[.int .u16 (v : Int), .slice oa1 0 oc1, .int .i64 6, .int .u16 0, .string S, .int .i64 0, .int .i64 0] 57)).heap[w1.heap.size]? = some (.cells #[.int .u16 (v : Int), .slice oa1 0 oc1, .int .i64 6, .int .u16 0, .string S, .int .i64 0, .int .i64 0] 57 (0, 0)) := new_at rfl
    have hba := (Below.refl w1.heap.size w1).alloc (Nat.le_refl _) (.cells #[.int .u16 (v : Int), .slice oa1 0 oc1, .int .i64 6, .int .u16 0, .string S, .int .i64 0, .int .i64 0] 57)
    have hox := (ho.below evR_stable hba).mono evR_stable hba.size
    have hbx : Below P1.heap.size P1 _ := hb.trans (hba.mono hb.size)
    generalize hW : w1.alloc (.cells #[.int .u16 (v : Int), .slice oa1 0 oc1, .int .i64 6, .int .u16 0, .string S, .int .i64 0, .int .i64 0] 57) = R1 at *
    generalize hc : w1.heap.size = r1 at *
    have HR1 := Lib.hid (show Below P1.heap.size P1 R1 ∧ EventsIn R1 R1.heap.size (.slice oa1 0 oc1) [] ∧ R1.heap[r1]? = some (.cells #[.int .u16 (v : Int), .slice oa1 0 oc1, .int .i64 6, .int .u16 0, .string S, .int .i64 0, .int .i64 0] 57 (0, 0)) from ⟨hbx, hox, hx⟩)
    clear hb ho hx hba hox hbx hW hc HEV
    have hr1 := HR1.out.2.2
    have y0 : R1.cell? ⟨r1, 0, none⟩ = some (.int .u16 (v : Int)) := cell_of_blk hr1 (by simp)
    have y1 : R1.cell? ⟨r1, 1, none⟩ = some (.slice oa1 0 oc1) := cell_of_blk hr1 (by simp)
    have y2 : R1.cell? ⟨r1, 2, none⟩ = some (.int .i64 6) := cell_of_blk hr1 (by simp)
    have y3 : R1.cell? ⟨r1, 3, none⟩ = some (.int .u16 0) := cell_of_blk hr1 (by simp)
    have y4 : R1.cell? ⟨r1, 4, none⟩ = some (.string S) := cell_of_blk hr1 (by simp)
    have y5 : R1.cell? ⟨r1, 5, none⟩ = some (.int .i64 0) := cell_of_blk hr1 (by simp)
    have y6 : R1.cell? ⟨r1, 6, none⟩ = some (.int .i64 0) := cell_of_blk hr1 (by simp)
    have hkw := Lib.hid (HB0.out.trans ((HP1.out.1.trans (HR1.out.1.mono HP1.out.1.size)).mono HB0.out.size))
    clear hr1 HR1 HP1
    obtain ⟨q8, h8⟩ : ∃ q, (c == 8) = q := ⟨_, rfl⟩
    obtain ⟨q0, h0⟩ : ∃ q, ((b : Int) == 0) = q := ⟨_, rfl⟩
    have hq : (q8 && q0) = false := by
      rw [← h8, ← h0]
      cases hx : (c == 8 && (b : Int) == 0) with
      | false => rfl
      | true =>
        rw [Bool.and_eq_true, beq_iff_eq, beq_iff_eq] at hx
        exact absurd ⟨hx.1, by omega⟩ HD.out
    obtain ⟨n, hn⟩ : ∃ n, arithN c a b = n := ⟨_, rfl⟩
    rw [hn] at HRA HV
    clear hn
    have hra2 : ∀ W, Calls Try.prog 35 #[.int .i64 c, .int .u16 (a : Int), .int .u16 (b : Int)] W fun e w' => e = .returned (.int .u16 (n : Int)) ∧ w' = W := fun W => (HRA.out W).mono (fun e w' h => ⟨h.1, h.2.symm⟩)
    have HRA2 := Lib.hid hra2
    clear hra2
    have hv2 := HV.out
    generalize hR : R1 = W1 at *
    clear hR
    cases q8 <;> cases q0
    all_goals first | (cases hq; done) | skip
    all_goals clear hq
    all_goals go_wp2
    all_goals go_quiet ((go_at_call 35; exact Calls.quiet_of_same (HRA2.out _)))
    all_goals go_wp2
    all_goals go_ret
    all_goals exact ⟨rfl, below_drewN hkw.out⟩
end Go.Proofs.Ytojclalkfhoooaa
