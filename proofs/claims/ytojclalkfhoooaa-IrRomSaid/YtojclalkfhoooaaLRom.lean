/-
  The law IrRom, walked.
-/
import Derived.Test.YtojclalkfhoooaaISem
import Derived.Test.YtojclalkfhoooaaRByt
set_option linter.unusedVariables false
set_option linter.unusedSimpArgs false
namespace Go.Proofs.Ytojclalkfhoooaa
open Go.RowKit

theorem i64_r (x : Int) (h1 : -100 ≤ x) (h2 : x ≤ 100) : I64 x := ⟨by omega, by omega⟩
theorem i64_c (x : Int) (h : (decide (-100 ≤ x) && decide (x ≤ 100)) = true) : I64 x := by
  simp only [Bool.and_eq_true, decide_eq_true_eq] at h
  exact i64_r x h.1 h.2
def romOps (c : Int) (a bank : Nat) : List (IOp × Value) := [(⟨1, 0, 0, 0, a, []⟩, .slice none 0 0), (⟨c, 1, 0, 0, bank, []⟩, .slice none 0 0)]
def romP0 (c : Int) (a bank : Nat) : IProg := smallP ⟨4, 1, []⟩ ((romOps c a bank).map (·.1))
def romP (c : Int) (a bank : Nat) (s1 s2 : ByteArray) : IProg := { romP0 c a bank with banks := [s1, s2] }
theorem romOps_ok {c : Int} (hc : c = 22 ∨ c = 23) {a b : Nat} (ha : a < 65536) (hb : b < 65536) : opsNil (romOps c a b) := by
  intro q hq
  simp only [romOps, List.mem_cons, List.not_mem_nil, or_false] at hq
  rcases hq with rfl | rfl
  · exact ⟨⟨i64_c _ rfl, i64_c _ rfl, i64_c _ rfl, i64_c _ rfl, ha⟩, rfl, rfl⟩
  · exact ⟨⟨i64_r _ (by show -100 ≤ c; omega) (by show c ≤ 100; omega), i64_c _ rfl, i64_c _ rfl, i64_c _ rfl, hb⟩, rfl, rfl⟩
theorem romP_valid {c : Int} (hc : c = 22 ∨ c = 23) (a b : Nat) {s1 s2 : ByteArray} (h1 : s1.size = 4096) (h2 : s2.size = 4096) : validF (romP c a b s1 s2) = 0 := by
  refine banks_valid (p := romP0 c a b) ?_ rfl (fun s hs => ?_) (by show 2 ≤ 64; omega)
  · rcases hc with rfl | rfl <;> rfl
  · simp only [List.mem_cons, List.not_mem_nil, or_false] at hs
    rcases hs with rfl | rfl
    · exact h1
    · exact h2
def bankOf (bank : Nat) (s1 s2 : ByteArray) : ByteArray := if bank = 0 then s1 else s2
def byteOf (s : ByteArray) (a : Nat) : Nat := (s.data.getD a 0).toNat
/-- What the evaluation answers. -/
def romRun (c : Int) (a bank : Nat) (s1 s2 : ByteArray) : IRun :=
  if 2 ≤ bank ∨ 4096 ≤ a then ⟨0, [], 2, a, ramOf ⟨#[]⟩, 0, 0⟩
  else if c = 22 ∧ a = 4095 then ⟨0, [], 2, 4096, ramOf ⟨#[]⟩, 0, 0⟩
  else ⟨if c = 22 then byteOf (bankOf bank s1 s2) a + 256 * byteOf (bankOf bank s1 s2) (a + 1) else byteOf (bankOf bank s1 s2) a, [], 6, 0, ramOf ⟨#[]⟩, 0, 0⟩
set_option maxRecDepth 100000 in
theorem romP_run {c : Int} (hc : c = 22 ∨ c = 23) {a bank : Nat} (ha : a < 65536) (hb : bank < 65536) {s1 s2 : ByteArray} (h1 : s1.size = 4096) (h2 : s2.size = 4096) : evalF ⟨romP c a bank s1 s2, [], []⟩ 0 [] ⟨#[]⟩ 10 = romRun c a bank s1 s2 := by
  have hask : askF (romP c a bank s1 s2) 0 [] = true := by
    unfold askF
    rw [romP_valid hc a bank h1 h2]; rfl
  refine (if_pos hask).trans ?_
  obtain ⟨E, hE⟩ : ∃ E, E = (⟨romP c a bank s1 s2, [], []⟩ : IEnv) := ⟨_, rfl⟩
  have hfun : E.p.funcs.getD 0 [] = [⟨[], (romOps c a bank).map (·.1), ⟨4, 1, []⟩⟩] := by rw [hE]; rfl
  have hbk : ∀ x, romOk E bank x = (decide (bank < 2) && decide (x < 4096)) := fun x => by rw [hE]; rfl
  have hat : bank < 2 → ∀ x, romAt E bank x = byteOf (bankOf bank s1 s2) x := fun hb2 x => by
    rw [hE]
    match bank, hb2 with
    | 0, _ => rfl
    | 1, _ => rfl
  rw [← hE]
  have hs1 : stepR E (callR E 99) ⟨1, 0, 0, 0, a, []⟩ (fun _ => 0) (Mach.pay ⟨ramOf ⟨#[]⟩, 10, [], 0, 0⟩) = .ok a (Mach.pay ⟨ramOf ⟨#[]⟩, 10, [], 0, 0⟩) := rfl
  have hs2 : stepR E (callR E 99) ⟨c, 1, 0, 0, bank, []⟩ (setV (fun _ => 0) 0 a) (Mach.pay (Mach.pay ⟨ramOf ⟨#[]⟩, 10, [], 0, 0⟩)) = if c = 22 then romR E (Mach.pay (Mach.pay ⟨ramOf ⟨#[]⟩, 10, [], 0, 0⟩)) bank a else rombR E (Mach.pay (Mach.pay ⟨ramOf ⟨#[]⟩, 10, [], 0, 0⟩)) bank a := by
    rcases hc with rfl | rfl <;> rfl
  unfold romRun
  by_cases hout : 2 ≤ bank ∨ 4096 ≤ a
  · rw [if_pos hout]
    have hno : romOk E bank a = false := by
      rw [hbk]
      rcases hout with h | h
      · rw [decide_eq_false (by omega)]; rfl
      · rw [decide_eq_false (show ¬ a < 4096 by omega), Bool.and_false]
    refine run_trap (m2 := (Mach.pay (Mach.pay ⟨ramOf ⟨#[]⟩, 10, [], 0, 0⟩))) (k := 2) (i := a) hfun ((opsR_step (by decide) hs1).trans (opsR_trap (by decide) (hs2.trans ?_)))
    have e1 : ∀ M, romR E M bank a = .trap 2 a M := fun M => by unfold romR; rw [hno]; rfl
    have e2 : ∀ M, rombR E M bank a = .trap 2 a M := fun M => by unfold rombR; rw [hno]; rfl
    rw [e1, e2]
    split <;> rfl
  · rw [if_neg hout]
    have hb2 : bank < 2 := by omega
    have hok : romOk E bank a = true := by rw [hbk, decide_eq_true hb2, decide_eq_true (show a < 4096 by omega)]; rfl
    have hi : inc16 a = a + 1 := by unfold inc16; omega
    by_cases hend : c = 22 ∧ a = 4095
    · rw [if_pos hend]
      obtain ⟨rfl, rfl⟩ := hend
      refine run_trap (m2 := (Mach.pay (Mach.pay ⟨ramOf ⟨#[]⟩, 10, [], 0, 0⟩))) (k := 2) (i := 4096) hfun ((opsR_step (by decide) hs1).trans (opsR_trap (by decide) (hs2.trans ?_)))
      rw [if_pos rfl]
      unfold romR
      rw [if_pos hok, if_neg (by rw [hi, hbk, decide_eq_true hb2]; decide)]
      rfl
    · rw [if_neg hend]
      rcases hc with rfl | rfl
      · have ha1 : a + 1 < 4096 := by omega
        have hok2 : romOk E bank (inc16 a) = true := by rw [hi, hbk, decide_eq_true hb2, decide_eq_true ha1]; rfl
        refine (run_ok hfun ((opsR_step (by decide) hs1).trans (opsR_step (by decide) (r := byteOf (bankOf bank s1 s2) a + 256 * byteOf (bankOf bank s1 s2) (a + 1)) (m' := (Mach.pay (Mach.pay ⟨ramOf ⟨#[]⟩, 10, [], 0, 0⟩))) (hs2.trans ?_))) (by decide)).trans ?_
        · rw [if_pos rfl]
          unfold romR
          rw [if_pos hok, if_pos hok2, hi, hat hb2, hat hb2]
        · rfl
      · refine (run_ok hfun ((opsR_step (by decide) hs1).trans (opsR_step (by decide) (r := byteOf (bankOf bank s1 s2) a) (m' := (Mach.pay (Mach.pay ⟨ramOf ⟨#[]⟩, 10, [], 0, 0⟩))) (hs2.trans ?_))) (by decide)).trans ?_
        · rw [if_neg (by decide)]
          unfold rombR
          rw [if_pos hok, hat hb2]
        · rfl
theorem romP_sized (c : Int) (a bank : Nat) (s1 s2 : ByteArray) : SizedP (romP c a bank s1 s2) := fun f hf => (show SizedP (romP0 c a bank) from small_sized (by show 2 ≤ 2000000; decide) (by decide)) f hf
theorem byteOf_get {s : ByteArray} {a : Nat} (h : a < s.size) : byteOf s a = (s[a]).toNat := by
  unfold byteOf
  congr 1
  show s.data.getD a 0 = s.data[a]
  rw [Array.getD_eq_getD_getElem?, Array.getElem?_eq_getElem (by exact h)]; rfl
set_option maxHeartbeats 4000000 in
set_option maxRecDepth 100000 in
theorem law_rom (w : World) (bank a kd : Nat) (hbk : bank < 65536) (ha : a < 65536) (hkd : kd < 256) :
    Calls Try.prog 12 #[.int .u16 (bank : Int), .int .u16 (a : Int), .int .u8 (kd : Int)] w fun e w' => e = .returned (.bool true) ∧ Below w.heap.size w w' := by
  obtain ⟨S, hS⟩ : ∃ S, ramStr (ramOf ⟨#[]⟩) = S := ⟨_, rfl⟩
  have HS := Lib.hid hS
  have HAB := Lib.hid (And.intro ha hbk)
  obtain ⟨S1, hS1⟩ : ∃ S, ramStr (bytesL 1 4096) = S := ⟨_, rfl⟩
  obtain ⟨S2, hS2⟩ : ∃ S, ramStr (bytesL 2 4096) = S := ⟨_, rfl⟩
  have hz1 : S1.size = 4096 := by rw [← hS1, ramStr_size, bytesL_len]
  have hz2 : S2.size = 4096 := by rw [← hS2, ramStr_size, bytesL_len]
  have hby1 := fun W => bytes_any W 1 4096 (by decide) (by decide)
  have hby2 := fun W => bytes_any W 2 4096 (by decide) (by decide)
  rw [hS1] at hby1
  rw [hS2] at hby2
  have HBY1 := Lib.hid hby1
  have HBY2 := Lib.hid hby2
  have HZ := Lib.hid (And.intro hz1 hz2)
  have hand1 : bits .and .u8 (kd : Int) 1 = ((kd % 2 : Nat) : Int) := by
    have h := (bits_nat .u8 8 (by decide) wraps_u8 kd 1 hkd (by decide)).1
    rw [show ((1 : Nat) : Int) = 1 from rfl] at h
    rw [h]
    congr 1
    exact Nat.and_one_is_mod kd
  obtain ⟨b, hb⟩ : ∃ b, kd % 2 = b := ⟨_, rfl⟩
  rw [hb] at hand1
  have hb01 : b = 0 ∨ b = 1 := by omega
  clear hS hS1 hS2 hby1 hby2 hz1 hz2 hb hkd
  have hcc : (22 : Int) + (b : Int) = 22 ∨ (22 : Int) + (b : Int) = 23 := by omega
  have HB01 := Lib.hid hb01
  have hb1 : b ≤ 1 := by omega
  have HC := Lib.hid hcc
  clear hb01 hcc ha hbk
  go_enter Try.func12, Try.ntmps12
  go_upto_region 3 with (go_at_call 17; go_must (refine (sanity_any _).mono ?_; rintro e w0 ⟨rfl, hb0⟩))
  have HB0 := Lib.hid hb0
  clear hb0
  go_upto_region 4 with (go_at_call 32; go_must (refine (small_lit (l := romOps (22 + (b : Int)) a bank) (new_at rfl) (romOps_ok HC.out HAB.out.1 HAB.out.2) (by show 2 ≤ 1000000; decide) ⟨⟨by decide, by decide⟩, ⟨by decide, by decide⟩⟩ rfl).mono ?_; rintro e w1 ⟨f1, g1, a1, b1, d1, e1, h1, i1, rfl, hp, hb⟩))
  have hx : (w1.alloc (.cells #[.slice f1 1 g1, .slice a1 1 b1, .int .i64 0, .int .i64 (-1), .slice d1 0 e1, .slice h1 0 i1] 29)).heap[w1.heap.size]? = some (.cells #[.slice f1 1 g1, .slice a1 1 b1, .int .i64 0, .int .i64 (-1), .slice d1 0 e1, .slice h1 0 i1] 29 (0, 0)) := new_at rfl
  have hba := (Below.refl w1.heap.size w1).alloc (Nat.le_refl _) (.cells #[.slice f1 1 g1, .slice a1 1 b1, .int .i64 0, .int .i64 (-1), .slice d1 0 e1, .slice h1 0 i1] 29)
  have hpx := (hp.below hba).mono hba.size
  have hbx := ((Below.refl w0.heap.size w0).alloc (Nat.le_refl _) _).trans ((hb.trans (hba.mono hb.size)).mono (by simp))
  have hge : w0.heap.size ≤ w1.heap.size := by have := hb.size; simp at this; omega
  have hpq := hp.below hba
  generalize hW : w1.alloc (.cells #[.slice f1 1 g1, .slice a1 1 b1, .int .i64 0, .int .i64 (-1), .slice d1 0 e1, .slice h1 0 i1] 29) = P1 at *
  generalize hc : w1.heap.size = c1 at *
  have HP1 := Lib.hid (show Below w0.heap.size w0 P1 ∧ ProgIn P1 P1.heap.size ⟨.slice f1 1 g1, .slice a1 1 b1, .slice d1 0 e1, .slice h1 0 i1⟩ (romP0 (22 + (b : Int)) a bank) ∧ P1.heap[c1]? = some (.cells #[.slice f1 1 g1, .slice a1 1 b1, .int .i64 0, .int .i64 (-1), .slice d1 0 e1, .slice h1 0 i1] 29 (0, 0)) from ⟨hbx, hpx, hx⟩)
  have HQ1 := Lib.hid (show w0.heap.size ≤ c1 ∧ ProgIn P1 c1 ⟨.slice f1 1 g1, .slice a1 1 b1, .slice d1 0 e1, .slice h1 0 i1⟩ (romP0 (22 + (b : Int)) a bank) from ⟨hge, hpq⟩)
  clear hb hp hx hba hpx hbx hW hc hge hpq
  have m1 : True := trivial
  have hcp1 := HP1.out.2.2
  have lc1 := lt_of_block hcp1
  go_upto_region 5 with (first
    | (go_at_call 33; have gate := m1; clear m1; go_must (refine (HBY1.out _).mono ?_; rintro e wa ⟨rfl, hba⟩))
    | (go_at_call 33; go_must (refine (HBY2.out _).mono ?_; rintro e wb ⟨rfl, hbb⟩; have hk : Below P1.heap.size P1 wb := hba.trans (hbb.mono hba.size); have hcb : ∀ ob, (wb.alloc ob).heap[c1]? = some (.cells #[.slice f1 1 g1, .slice a1 1 b1, .int .i64 0, .int .i64 (-1), .slice d1 0 e1, .slice h1 0 i1] 29 (0, 0)) := fun ob => alloc_blk (below_blk hk hcp1 lc1); have cc5 : ∀ ob, (wb.alloc ob).cell? ⟨c1, 5, none⟩ = some (.slice h1 0 i1) := fun ob => cell_of_blk (hcb ob) (by simp); have fc5 : ∀ ob, (wb.alloc ob).frozen? ⟨c1, 5, none⟩ = false := fun ob => free_of_blk (hcb ob))))
  have hal := (Below.refl wb.heap.size wb).alloc (Nat.le_refl _) (.cells #[.string S1, .string S2] 9)
  have hkx := hk.trans (hal.mono hk.size)
  have hblk : ((wb.alloc (.cells #[.string S1, .string S2] 9)).setCell ⟨c1, 5, none⟩ (.slice (some ⟨wb.heap.size, 0, none⟩) 2 2)).heap[c1]? = some (.cells #[.slice f1 1 g1, .slice a1 1 b1, .int .i64 0, .int .i64 (-1), .slice d1 0 e1, .slice (some ⟨wb.heap.size, 0, none⟩) 2 2] 29 (0, 0)) := by
    rw [heap_setCell_self (hcb _)]; rfl
  have hsb : ((wb.alloc (.cells #[.string S1, .string S2] 9)).setCell ⟨c1, 5, none⟩ (.slice (some ⟨wb.heap.size, 0, none⟩) 2 2)).heap[wb.heap.size]? = some (.cells #[.string S1, .string S2] 9 (0, 0)) := set_blk (new_at rfl) (by have := hk.size; simp; omega)
  have hbc : Below c1 P1 ((wb.alloc (.cells #[.string S1, .string S2] 9)).setCell ⟨c1, 5, none⟩ (.slice (some ⟨wb.heap.size, 0, none⟩) 2 2)) := (hkx.mono (Nat.le_of_lt lc1)).setCell (Nat.le_refl _) _
  have hbw : Below w0.heap.size w0 ((wb.alloc (.cells #[.string S1, .string S2] 9)).setCell ⟨c1, 5, none⟩ (.slice (some ⟨wb.heap.size, 0, none⟩) 2 2)) := (HP1.out.1.trans (hkx.mono HP1.out.1.size)).setCell HQ1.out.1 _
  generalize hW : (wb.alloc (.cells #[.string S1, .string S2] 9)).setCell ⟨c1, 5, none⟩ (.slice (some ⟨wb.heap.size, 0, none⟩) 2 2) = P2 at *
  generalize hsbe : wb.heap.size = sb at *
  have hpq := (HQ1.out.2.below hbc).mono (Nat.le_of_lt (lt_of_block hblk))
  have hpr : ProgIn P2 P2.heap.size ⟨.slice f1 1 g1, .slice a1 1 b1, .slice d1 0 e1, .slice (some ⟨sb, 0, none⟩) 2 2⟩ (romP (22 + (b : Int)) a bank S1 S2) :=
    ⟨hpq.funcs, hpq.args, hpq.data, one_lit (xs := [S1, S2]) (vs := [.string S1, .string S2]) hsb (lt_of_block hsb) rfl (by show 2 ≤ 1000000; decide) (fun k v x hv hx hc => by
      match k, hv, hx with
      | 0, hv, hx => cases hv; cases hx; exact ⟨hc, by rw [HZ.out.1]; decide⟩
      | 1, hv, hx => cases hv; cases hx; exact ⟨hc, by rw [HZ.out.2]; decide⟩), hpq.ent, hpq.hnd⟩
  have HP2 := Lib.hid (show Below w0.heap.size w0 P2 ∧ ProgIn P2 P2.heap.size ⟨.slice f1 1 g1, .slice a1 1 b1, .slice d1 0 e1, .slice (some ⟨sb, 0, none⟩) 2 2⟩ (romP (22 + (b : Int)) a bank S1 S2) ∧ P2.heap[c1]? = some (.cells #[.slice f1 1 g1, .slice a1 1 b1, .int .i64 0, .int .i64 (-1), .slice d1 0 e1, .slice (some ⟨sb, 0, none⟩) 2 2] 29 (0, 0)) from ⟨hbw, hpr, hblk⟩)
  have HSB := Lib.hid hsb
  clear hal hkx hblk hsb hbc hbw hpq hpr hW hsbe hk hcb cc5 fc5 hba hbb hcp1 lc1
  have HRUN := Lib.hid (romP_run (c := 22 + (b : Int)) HC.out HAB.out.1 HAB.out.2 HZ.out.1 HZ.out.2)
  obtain ⟨qb, gb⟩ : ∃ q, decide (2 ≤ bank) = q := ⟨_, rfl⟩
  obtain ⟨qa, ga⟩ : ∃ q, decide (4096 ≤ a) = q := ⟨_, rfl⟩
  have tb : decide ((2 : Int) ≤ (bank : Int)) = qb := bool_of gb (by omega)
  have ta : decide ((4096 : Int) ≤ (a : Int)) = qa := bool_of ga (by omega)
  by_cases hout : 2 ≤ bank ∨ 4096 ≤ a
  · have HOUT := Lib.hid hout
    have hq : (qb || qa) = true := by rw [← gb, ← ga]; rcases hout with h | h <;> simp [h]
    have HB := Lib.hid (And.intro gb ga)
    clear hout gb ga
    have HRR := Lib.hid (HRUN.out.trans (show romRun (22 + (b : Int)) a bank S1 S2 = ⟨0, [], 2, a, ramOf ⟨#[]⟩, 0, 0⟩ from if_pos HOUT.out))
    have hev : ∀ (W : World), Below P2.heap.size P2 W → Calls Try.prog 23 #[.agg #[.slice f1 1 g1, .slice a1 1 b1, .int .i64 0, .int .i64 (-1), .slice d1 0 e1, .slice (some ⟨sb, 0, none⟩) 2 2], .int .i64 0, .slice none 0 0, .string ⟨#[]⟩, .agg #[.slice none 0 0, .slice none 0 0], .int .i64 10] W (fun e w' => ∃ oa2 oc2, e = .returned (.agg #[.int .u16 0, .slice oa2 0 oc2, .int .i64 2, .int .u16 (a : Int), .string S, .int .i64 0, .int .i64 0]) ∧ EventsIn w' w'.heap.size (.slice oa2 0 oc2) [] ∧ Below W.heap.size W w') := fun W hb => by
      have := (eval_any ((HP2.out.2.1.below hb).mono hb.size) (romP_sized _ _ _ _ _) 0 i64_zero Elems.nil ⟨#[]⟩ (by decide) Elems.nil Elems.nil 10 ⟨by decide, by decide⟩ (by decide)).mono (fun e w' h => h.open)
      rw [HRR.out] at this
      rw [← HS.out]
      exact this
    have HEV := Lib.hid hev
    clear hev
    have x0 : P2.cell? ⟨c1, 0, none⟩ = some (.slice f1 1 g1) := cell_of_blk HP2.out.2.2 (by simp)
    have x1 : P2.cell? ⟨c1, 1, none⟩ = some (.slice a1 1 b1) := cell_of_blk HP2.out.2.2 (by simp)
    have x2 : P2.cell? ⟨c1, 2, none⟩ = some (.int .i64 0) := cell_of_blk HP2.out.2.2 (by simp)
    have x3 : P2.cell? ⟨c1, 3, none⟩ = some (.int .i64 (-1)) := cell_of_blk HP2.out.2.2 (by simp)
    have x4 : P2.cell? ⟨c1, 4, none⟩ = some (.slice d1 0 e1) := cell_of_blk HP2.out.2.2 (by simp)
    have x5 : P2.cell? ⟨c1, 5, none⟩ = some (.slice (some ⟨sb, 0, none⟩) 2 2) := cell_of_blk HP2.out.2.2 (by simp)
    go_upto_region 6 with (go_at_call 23; go_must (refine (HEV.out _ (Below.refl _ _)).mono ?_; rintro e w1 ⟨oa2, oc2, rfl, ho, hb⟩))
    clear x0 x1 x2 x3 x4 x5
    have hx : (w1.alloc (.cells #[.int .u16 0, .slice oa2 0 oc2, .int .i64 2, .int .u16 (a : Int), .string S, .int .i64 0, .int .i64 0] 57)).heap[w1.heap.size]? = some (.cells #[.int .u16 0, .slice oa2 0 oc2, .int .i64 2, .int .u16 (a : Int), .string S, .int .i64 0, .int .i64 0] 57 (0, 0)) := new_at rfl
    have hba := (Below.refl w1.heap.size w1).alloc (Nat.le_refl _) (.cells #[.int .u16 0, .slice oa2 0 oc2, .int .i64 2, .int .u16 (a : Int), .string S, .int .i64 0, .int .i64 0] 57)
    have hox := (ho.below evR_stable hba).mono evR_stable hba.size
    have hbx : Below P2.heap.size P2 _ := hb.trans (hba.mono hb.size)
    generalize hW : w1.alloc (.cells #[.int .u16 0, .slice oa2 0 oc2, .int .i64 2, .int .u16 (a : Int), .string S, .int .i64 0, .int .i64 0] 57) = R2 at *
    generalize hc : w1.heap.size = r2 at *
    have HR2 := Lib.hid (show Below P2.heap.size P2 R2 ∧ EventsIn R2 R2.heap.size (.slice oa2 0 oc2) [] ∧ R2.heap[r2]? = some (.cells #[.int .u16 0, .slice oa2 0 oc2, .int .i64 2, .int .u16 (a : Int), .string S, .int .i64 0, .int .i64 0] 57 (0, 0)) from ⟨hbx, hox, hx⟩)
    clear hb ho hx hba hox hbx hW hc HEV
    have hr1 := HR2.out.2.2
    have y0 : R2.cell? ⟨r2, 0, none⟩ = some (.int .u16 0) := cell_of_blk hr1 (by simp)
    have y1 : R2.cell? ⟨r2, 1, none⟩ = some (.slice oa2 0 oc2) := cell_of_blk hr1 (by simp)
    have y2 : R2.cell? ⟨r2, 2, none⟩ = some (.int .i64 2) := cell_of_blk hr1 (by simp)
    have y3 : R2.cell? ⟨r2, 3, none⟩ = some (.int .u16 (a : Int)) := cell_of_blk hr1 (by simp)
    have y4 : R2.cell? ⟨r2, 4, none⟩ = some (.string S) := cell_of_blk hr1 (by simp)
    have y5 : R2.cell? ⟨r2, 5, none⟩ = some (.int .i64 0) := cell_of_blk hr1 (by simp)
    have y6 : R2.cell? ⟨r2, 6, none⟩ = some (.int .i64 0) := cell_of_blk hr1 (by simp)
    have hq1 := below_blk HR2.out.1 HP2.out.2.2 (lt_of_block HP2.out.2.2)
    have z5 : R2.cell? ⟨c1, 5, none⟩ = some (.slice (some ⟨sb, 0, none⟩) 2 2) := cell_of_blk hq1 (by simp)
    have hs1 := below_blk HR2.out.1 HSB.out (lt_of_block HSB.out)
    have s0 : R2.cell? ⟨sb, 0, none⟩ = some (.string S1) := cell_of_blk hs1 (by simp)
    have s1 : R2.cell? ⟨sb, 1, none⟩ = some (.string S2) := cell_of_blk hs1 (by simp)
    have hkw := Lib.hid (HB0.out.trans ((HP2.out.1.trans (HR2.out.1.mono HP2.out.1.size)).mono HB0.out.size))
    clear hr1 hq1 hs1 HR2 HP2 HP1 HQ1
    cases qb <;> cases qa
    all_goals first | (cases hq; done) | skip
    all_goals clear hq
    all_goals go_wp2
    all_goals go_ret
    all_goals exact ⟨rfl, hkw.out⟩
  · have hb2 : bank < 2 := by omega
    have ha4 : a < 4096 := by omega
    have eqb : qb = false := by rw [← gb]; exact decide_eq_false (by omega)
    have eqa : qa = false := by rw [← ga]; exact decide_eq_false (by omega)
    subst eqb eqa
    obtain ⟨q0, g0⟩ : ∃ q, ((b : Int) == 0) = q := ⟨_, rfl⟩
    obtain ⟨q5, g5⟩ : ∃ q, ((a : Int) == 4095) = q := ⟨_, rfl⟩
    have HOUT := Lib.hid hout
    have HB := Lib.hid (And.intro g0 g5)
    clear hout gb ga
    by_cases hend : b = 0 ∧ a = 4095
    · obtain rfl : q0 = true := by rw [← g0, hend.1]; rfl
      obtain rfl : q5 = true := by rw [← g5, hend.2]; rfl
      have HEND := Lib.hid hend
      clear hend
      have HRR := Lib.hid (HRUN.out.trans (show romRun (22 + (b : Int)) a bank S1 S2 = ⟨0, [], 2, 4096, ramOf ⟨#[]⟩, 0, 0⟩ from by unfold romRun; rw [if_neg HOUT.out, if_pos ⟨by rw [HEND.out.1]; rfl, HEND.out.2⟩]))
      have hev : ∀ (W : World), Below P2.heap.size P2 W → Calls Try.prog 23 #[.agg #[.slice f1 1 g1, .slice a1 1 b1, .int .i64 0, .int .i64 (-1), .slice d1 0 e1, .slice (some ⟨sb, 0, none⟩) 2 2], .int .i64 0, .slice none 0 0, .string ⟨#[]⟩, .agg #[.slice none 0 0, .slice none 0 0], .int .i64 10] W (fun e w' => ∃ oa2 oc2, e = .returned (.agg #[.int .u16 0, .slice oa2 0 oc2, .int .i64 2, .int .u16 4096, .string S, .int .i64 0, .int .i64 0]) ∧ EventsIn w' w'.heap.size (.slice oa2 0 oc2) [] ∧ Below W.heap.size W w') := fun W hb => by
        have := (eval_any ((HP2.out.2.1.below hb).mono hb.size) (romP_sized _ _ _ _ _) 0 i64_zero Elems.nil ⟨#[]⟩ (by decide) Elems.nil Elems.nil 10 ⟨by decide, by decide⟩ (by decide)).mono (fun e w' h => h.open)
        rw [HRR.out] at this
        rw [← HS.out]
        exact this
      have HEV := Lib.hid hev
      clear hev
      have x0 : P2.cell? ⟨c1, 0, none⟩ = some (.slice f1 1 g1) := cell_of_blk HP2.out.2.2 (by simp)
      have x1 : P2.cell? ⟨c1, 1, none⟩ = some (.slice a1 1 b1) := cell_of_blk HP2.out.2.2 (by simp)
      have x2 : P2.cell? ⟨c1, 2, none⟩ = some (.int .i64 0) := cell_of_blk HP2.out.2.2 (by simp)
      have x3 : P2.cell? ⟨c1, 3, none⟩ = some (.int .i64 (-1)) := cell_of_blk HP2.out.2.2 (by simp)
      have x4 : P2.cell? ⟨c1, 4, none⟩ = some (.slice d1 0 e1) := cell_of_blk HP2.out.2.2 (by simp)
      have x5 : P2.cell? ⟨c1, 5, none⟩ = some (.slice (some ⟨sb, 0, none⟩) 2 2) := cell_of_blk HP2.out.2.2 (by simp)
      go_upto_region 6 with (go_at_call 23; go_must (refine (HEV.out _ (Below.refl _ _)).mono ?_; rintro e w1 ⟨oa2, oc2, rfl, ho, hb⟩))
      clear x0 x1 x2 x3 x4 x5
      have hx : (w1.alloc (.cells #[.int .u16 0, .slice oa2 0 oc2, .int .i64 2, .int .u16 4096, .string S, .int .i64 0, .int .i64 0] 57)).heap[w1.heap.size]? = some (.cells #[.int .u16 0, .slice oa2 0 oc2, .int .i64 2, .int .u16 4096, .string S, .int .i64 0, .int .i64 0] 57 (0, 0)) := new_at rfl
      have hba := (Below.refl w1.heap.size w1).alloc (Nat.le_refl _) (.cells #[.int .u16 0, .slice oa2 0 oc2, .int .i64 2, .int .u16 4096, .string S, .int .i64 0, .int .i64 0] 57)
      have hox := (ho.below evR_stable hba).mono evR_stable hba.size
      have hbx : Below P2.heap.size P2 _ := hb.trans (hba.mono hb.size)
      generalize hW : w1.alloc (.cells #[.int .u16 0, .slice oa2 0 oc2, .int .i64 2, .int .u16 4096, .string S, .int .i64 0, .int .i64 0] 57) = R2 at *
      generalize hc : w1.heap.size = r2 at *
      have HR2 := Lib.hid (show Below P2.heap.size P2 R2 ∧ EventsIn R2 R2.heap.size (.slice oa2 0 oc2) [] ∧ R2.heap[r2]? = some (.cells #[.int .u16 0, .slice oa2 0 oc2, .int .i64 2, .int .u16 4096, .string S, .int .i64 0, .int .i64 0] 57 (0, 0)) from ⟨hbx, hox, hx⟩)
      clear hb ho hx hba hox hbx hW hc HEV
      have hr1 := HR2.out.2.2
      have y0 : R2.cell? ⟨r2, 0, none⟩ = some (.int .u16 0) := cell_of_blk hr1 (by simp)
      have y1 : R2.cell? ⟨r2, 1, none⟩ = some (.slice oa2 0 oc2) := cell_of_blk hr1 (by simp)
      have y2 : R2.cell? ⟨r2, 2, none⟩ = some (.int .i64 2) := cell_of_blk hr1 (by simp)
      have y3 : R2.cell? ⟨r2, 3, none⟩ = some (.int .u16 4096) := cell_of_blk hr1 (by simp)
      have y4 : R2.cell? ⟨r2, 4, none⟩ = some (.string S) := cell_of_blk hr1 (by simp)
      have y5 : R2.cell? ⟨r2, 5, none⟩ = some (.int .i64 0) := cell_of_blk hr1 (by simp)
      have y6 : R2.cell? ⟨r2, 6, none⟩ = some (.int .i64 0) := cell_of_blk hr1 (by simp)
      have hq1 := below_blk HR2.out.1 HP2.out.2.2 (lt_of_block HP2.out.2.2)
      have z5 : R2.cell? ⟨c1, 5, none⟩ = some (.slice (some ⟨sb, 0, none⟩) 2 2) := cell_of_blk hq1 (by simp)
      have hs1 := below_blk HR2.out.1 HSB.out (lt_of_block HSB.out)
      have s0 : R2.cell? ⟨sb, 0, none⟩ = some (.string S1) := cell_of_blk hs1 (by simp)
      have s1 : R2.cell? ⟨sb, 1, none⟩ = some (.string S2) := cell_of_blk hs1 (by simp)
      have hkw := Lib.hid (HB0.out.trans ((HP2.out.1.trans (HR2.out.1.mono HP2.out.1.size)).mono HB0.out.size))
      clear hr1 hq1 hs1 HR2 HP2 HP1 HQ1
      go_wp2
      go_ret
      exact ⟨rfl, hkw.out⟩
    · have hsz : ∀ s, s = bankOf bank S1 S2 → s.size = 4096 := fun s hs => by
        rw [hs]; unfold bankOf; split
        · exact HZ.out.1
        · exact HZ.out.2
      obtain ⟨sB, hsB⟩ : ∃ s, bankOf bank S1 S2 = s := ⟨_, rfl⟩
      have hszB : sB.size = 4096 := hsz sB hsB.symm
      obtain ⟨v, hv⟩ : ∃ v, (if (22 : Int) + (b : Int) = 22 then byteOf sB a + 256 * byteOf sB (a + 1) else byteOf sB a) = v := ⟨_, rfl⟩
      have HV := Lib.hid (And.intro hsB (And.intro hv hszB))
      have hbI : (bank : Int) < 2 := by omega
      have haI : (a : Int) < sB.size := by omega
      have HEND := Lib.hid hend
      clear hsz hsB hv hend hszB
      have HRR := Lib.hid (HRUN.out.trans (show romRun (22 + (b : Int)) a bank S1 S2 = ⟨v, [], 6, 0, ramOf ⟨#[]⟩, 0, 0⟩ from by unfold romRun; rw [if_neg HOUT.out, if_neg (fun h => HEND.out ⟨by omega, h.2⟩), HV.out.1, HV.out.2.1]))
      have hev : ∀ (W : World), Below P2.heap.size P2 W → Calls Try.prog 23 #[.agg #[.slice f1 1 g1, .slice a1 1 b1, .int .i64 0, .int .i64 (-1), .slice d1 0 e1, .slice (some ⟨sb, 0, none⟩) 2 2], .int .i64 0, .slice none 0 0, .string ⟨#[]⟩, .agg #[.slice none 0 0, .slice none 0 0], .int .i64 10] W (fun e w' => ∃ oa2 oc2, e = .returned (.agg #[.int .u16 (v : Int), .slice oa2 0 oc2, .int .i64 6, .int .u16 0, .string S, .int .i64 0, .int .i64 0]) ∧ EventsIn w' w'.heap.size (.slice oa2 0 oc2) [] ∧ Below W.heap.size W w') := fun W hb => by
        have := (eval_any ((HP2.out.2.1.below hb).mono hb.size) (romP_sized _ _ _ _ _) 0 i64_zero Elems.nil ⟨#[]⟩ (by decide) Elems.nil Elems.nil 10 ⟨by decide, by decide⟩ (by decide)).mono (fun e w' h => h.open)
        rw [HRR.out] at this
        rw [← HS.out]
        exact this
      have HEV := Lib.hid hev
      clear hev
      have x0 : P2.cell? ⟨c1, 0, none⟩ = some (.slice f1 1 g1) := cell_of_blk HP2.out.2.2 (by simp)
      have x1 : P2.cell? ⟨c1, 1, none⟩ = some (.slice a1 1 b1) := cell_of_blk HP2.out.2.2 (by simp)
      have x2 : P2.cell? ⟨c1, 2, none⟩ = some (.int .i64 0) := cell_of_blk HP2.out.2.2 (by simp)
      have x3 : P2.cell? ⟨c1, 3, none⟩ = some (.int .i64 (-1)) := cell_of_blk HP2.out.2.2 (by simp)
      have x4 : P2.cell? ⟨c1, 4, none⟩ = some (.slice d1 0 e1) := cell_of_blk HP2.out.2.2 (by simp)
      have x5 : P2.cell? ⟨c1, 5, none⟩ = some (.slice (some ⟨sb, 0, none⟩) 2 2) := cell_of_blk HP2.out.2.2 (by simp)
      go_upto_region 6 with (go_at_call 23; go_must (refine (HEV.out _ (Below.refl _ _)).mono ?_; rintro e w1 ⟨oa2, oc2, rfl, ho, hb⟩))
      clear x0 x1 x2 x3 x4 x5
      have hx : (w1.alloc (.cells #[.int .u16 (v : Int), .slice oa2 0 oc2, .int .i64 6, .int .u16 0, .string S, .int .i64 0, .int .i64 0] 57)).heap[w1.heap.size]? = some (.cells #[.int .u16 (v : Int), .slice oa2 0 oc2, .int .i64 6, .int .u16 0, .string S, .int .i64 0, .int .i64 0] 57 (0, 0)) := new_at rfl
      have hba := (Below.refl w1.heap.size w1).alloc (Nat.le_refl _) (.cells #[.int .u16 (v : Int), .slice oa2 0 oc2, .int .i64 6, .int .u16 0, .string S, .int .i64 0, .int .i64 0] 57)
      have hox := (ho.below evR_stable hba).mono evR_stable hba.size
      have hbx : Below P2.heap.size P2 _ := hb.trans (hba.mono hb.size)
      generalize hW : w1.alloc (.cells #[.int .u16 (v : Int), .slice oa2 0 oc2, .int .i64 6, .int .u16 0, .string S, .int .i64 0, .int .i64 0] 57) = R2 at *
      generalize hc : w1.heap.size = r2 at *
      have HR2 := Lib.hid (show Below P2.heap.size P2 R2 ∧ EventsIn R2 R2.heap.size (.slice oa2 0 oc2) [] ∧ R2.heap[r2]? = some (.cells #[.int .u16 (v : Int), .slice oa2 0 oc2, .int .i64 6, .int .u16 0, .string S, .int .i64 0, .int .i64 0] 57 (0, 0)) from ⟨hbx, hox, hx⟩)
      clear hb ho hx hba hox hbx hW hc HEV
      have hr1 := HR2.out.2.2
      have y0 : R2.cell? ⟨r2, 0, none⟩ = some (.int .u16 (v : Int)) := cell_of_blk hr1 (by simp)
      have y1 : R2.cell? ⟨r2, 1, none⟩ = some (.slice oa2 0 oc2) := cell_of_blk hr1 (by simp)
      have y2 : R2.cell? ⟨r2, 2, none⟩ = some (.int .i64 6) := cell_of_blk hr1 (by simp)
      have y3 : R2.cell? ⟨r2, 3, none⟩ = some (.int .u16 0) := cell_of_blk hr1 (by simp)
      have y4 : R2.cell? ⟨r2, 4, none⟩ = some (.string S) := cell_of_blk hr1 (by simp)
      have y5 : R2.cell? ⟨r2, 5, none⟩ = some (.int .i64 0) := cell_of_blk hr1 (by simp)
      have y6 : R2.cell? ⟨r2, 6, none⟩ = some (.int .i64 0) := cell_of_blk hr1 (by simp)
      have hq1 := below_blk HR2.out.1 HP2.out.2.2 (lt_of_block HP2.out.2.2)
      have z5 : R2.cell? ⟨c1, 5, none⟩ = some (.slice (some ⟨sb, 0, none⟩) 2 2) := cell_of_blk hq1 (by simp)
      have hs1 := below_blk HR2.out.1 HSB.out (lt_of_block HSB.out)
      have s0 : R2.cell? ⟨sb, 0, none⟩ = some (.string S1) := cell_of_blk hs1 (by simp)
      have s1 : R2.cell? ⟨sb, 1, none⟩ = some (.string S2) := cell_of_blk hs1 (by simp)
      have hkw := Lib.hid (HB0.out.trans ((HP2.out.1.trans (HR2.out.1.mono HP2.out.1.size)).mono HB0.out.size))
      clear hr1 hq1 hs1 HR2 HP2 HP1 HQ1
      have s01 : R2.cell? ⟨sb, bank, none⟩ = some (.string sB) := by
        rw [← HV.out.1]
        unfold bankOf
        by_cases hk0 : bank = 0
        · rw [if_pos hk0, hk0]; exact s0
        · rw [if_neg hk0, show bank = 1 by omega]; exact s1
      clear s0 s1
      cases q0 with
      | true =>
        cases q5 with
        | true => exact absurd ⟨by have := HB.out.1; rw [beq_iff_eq] at this; omega, by have := HB.out.2; rw [beq_iff_eq] at this; omega⟩ HEND.out
        | false =>
          have ha5 : a ≠ 4095 := fun h => by have := HB.out.2; rw [beq_eq_false_iff_ne] at this; omega
          have hsz := HV.out.2.2
          have ha1I : (a : Int) + 1 < sB.size := by omega
          have hv : v = byteOf sB a + 256 * byteOf sB (a + 1) := by rw [← HV.out.2.1, if_pos (by have := HB.out.1; rw [beq_iff_eq] at this; omega)]
          have l1 : a < sB.size := by omega
          have l2 : a + 1 < sB.size := by omega
          rw [byteOf_get l1, byteOf_get l2] at hv
          have hE : ((v : Int) == IntKind.u16.wrap (IntKind.u16.wrap (sB[a]).toNat + IntKind.u16.wrap (IntKind.u16.wrap (sB[a + 1]).toNat * 256))) = true := by
            rw [beq_iff_eq, wrap16, wrap16, wrap16, wrap16, hv]
            have b1 := UInt8.toNat_lt sB[a]
            have b2 := UInt8.toNat_lt sB[a + 1]
            omega
          clear hv hsz ha5
          go_wp2
          go_ret
          exact ⟨rfl, hkw.out⟩
      | false =>
        have hsz := HV.out.2.2
        have hv : v = byteOf sB a := by rw [← HV.out.2.1, if_neg (by have := HB.out.1; rw [beq_eq_false_iff_ne] at this; omega)]
        have l1 : a < sB.size := by omega
        rw [byteOf_get l1] at hv
        have hE : ((v : Int) == IntKind.u16.wrap (sB[a]).toNat) = true := by
          rw [beq_iff_eq, wrap16, hv]
          have b1 := UInt8.toNat_lt sB[a]
          omega
        clear hv hsz
        go_wp2
        go_ret
        exact ⟨rfl, hkw.out⟩
end Go.Proofs.Ytojclalkfhoooaa
