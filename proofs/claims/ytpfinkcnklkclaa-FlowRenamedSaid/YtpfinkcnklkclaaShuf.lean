/-
  The walk of shuffled: a permutation that keeps 0.
-/
import Derived.Test.YtpfinkcnklkclaaBuild
import Derived.Test.YtpfinkcnklkclaaLPath
set_option linter.unusedVariables false
set_option linter.unusedSimpArgs false
namespace Go.Proofs.Ytpfinkcnklkclaa
open Go.RowKit

def shL (n k : Nat) : List Nat := (List.range n).map fun x => if x < k then x else 0
theorem shL_zero (n : Nat) : shL n 0 = List.replicate n 0 := by
  apply List.ext_getElem?
  intro x
  unfold shL
  rw [List.getElem?_map, List.getElem?_replicate]
  by_cases hx : x < n
  · rw [List.getElem?_range hx, if_pos hx]; simp
  · rw [List.getElem?_eq_none (by simpa using hx), if_neg hx]; rfl
theorem shL_full (n : Nat) : shL n n = List.range n := by
  unfold shL
  conv => rhs; rw [← List.map_id (List.range n)]
  exact List.map_congr_left fun x hx => by rw [if_pos (List.mem_range.1 hx)]; rfl
theorem shL_len (n k : Nat) : (shL n k).length = n := by simp [shL]
theorem shL_set (n k : Nat) (hk : k < n) : (shL n k).set k k = shL n (k + 1) := by
  apply List.ext_getElem?
  intro x
  rw [List.getElem?_set, shL_len]
  unfold shL
  rw [List.getElem?_map, List.getElem?_map]
  by_cases e : k = x
  · subst e
    rw [if_pos rfl, if_pos hk, List.getElem?_range hk]; simp
  · rw [if_neg e]
    by_cases hx : x < n
    · rw [List.getElem?_range hx]
      simp only [Option.map_some]
      by_cases h2 : x < k
      · rw [if_pos h2, if_pos (by omega)]
      · rw [if_neg h2, if_neg (by omega)]
    · rw [List.getElem?_eq_none (by simpa using hx)]; rfl
def RetTo (n : Nat) (w : World) (e : Ending) (w' : World) : Prop := ∃ lb tl, e = .returned (.slice (some ⟨lb, 0, none⟩) n n) ∧ w.heap.size ≤ lb ∧ w'.heap[lb]? = some (.cells (tl.map encNat).toArray 3 (0, 0)) ∧ Bij n tl ∧ Below w.heap.size w w'

set_option maxRecDepth 100000 in
set_option maxHeartbeats 1600000 in
theorem shuffled_any (w : World) (n : Nat) (hn0 : 0 < n) (hn : n ≤ 20) (cv : Value) (cs : List Nat) (hc : SliceOf encU8 w w.heap.size cv cs) (hcb : ∀ c ∈ cs, c ≤ 255) (hcl : cs.length ≤ 9223372036854775807) :
    Calls Try.prog 33 #[.int .i64 (n : Int), cv] w (RetTo n w) := by
  obtain ⟨ca, cc, rfl, hccap, hcx⟩ := hc
  have hmk2 := run_make_row' (P := Try.prog) 29 3 (.int .i64 0) 8 Try.underlying29 Try.info_int rfl .i64 .i64 n (by omega) (by omega)
  have HCX := Lib.hid hcx
  have HCB := Lib.hid hcb
  clear hcx hcb
  go_enter Try.func33, Try.ntmps33
  go_wp2
  go_loopw [13] (fun kv wr => ∃ k : Nat, k ≤ n ∧ kv = .int .i64 (k : Int) ∧ Hid (wr.heap[w.heap.size]? = some (.cells ((shL n k).map encNat).toArray 3 (0, 0)) ∧ Below w.heap.size w wr)) (fun kv _ => n - (intOf kv).toNat)
  case atStart =>
    refine ⟨0, Nat.zero_le _, rfl, ?_, (Below.refl _ _).alloc (Nat.le_refl _) _⟩
    rw [new_at rfl, toArray_madeCells, shL_zero]; simp [encNat]
  case round =>
    obtain ⟨k, hk, rfl, HK⟩ := hrel
    by_cases hlt : k < n
    · have hltI : (k : Int) < n := by omega
      have HLT := Lib.hid hlt
      have hg : (shL n k)[k]? = some 0 := by unfold shL; rw [List.getElem?_map, List.getElem?_range hlt]; simp
      have c0 : wr.cell? ⟨w.heap.size, k, none⟩ = some (.int .i64 0) := cell_of_blk HK.out.1 (by simp [hg, encNat])
      have f0 : wr.frozen? ⟨w.heap.size, k, none⟩ = false := free_of_blk HK.out.1
      have hset : Hid ((wr.setCell ⟨w.heap.size, k, none⟩ (.int .i64 (k : Int))).heap[w.heap.size]? = some (.cells ((shL n (k + 1)).map encNat).toArray 3 (0, 0)) ∧ Below w.heap.size w (wr.setCell ⟨w.heap.size, k, none⟩ (.int .i64 (k : Int)))) := by
        refine ⟨?_, HK.out.2.setCell (Nat.le_refl _) _⟩
        rw [heap_setCell_self HK.out.1, ← shL_set n k hlt]
        simp [encNat, List.map_set]
      clear hg hlt
      go_wp2
      go_roundw
      case rel => exact ⟨k + 1, HLT.out, by go_num, hset⟩
      case measure => have := HLT.out; simp [intOf]; omega
    · obtain rfl : k = n := by omega
      have hltI : ¬ (k : Int) < k := by omega
      have h0 := HK.out
      rw [shL_full] at h0
      have H0 := Lib.hid h0
      clear h0 HK
      generalize hW5 : wr = W5 at *
      clear hW5
      go_wp2
      go_loopw [7] (fun kv wx => ∃ (i : Nat) (tl : List Nat), 1 ≤ i ∧ i ≤ k ∧ kv = .int .i64 (i : Int) ∧ Hid (Bij k tl ∧ wx.heap[w.heap.size]? = some (.cells (tl.map encNat).toArray 3 (0, 0)) ∧ Below w.heap.size w wx)) (fun kv _ => k - (intOf kv).toNat)
      case atStart => exact ⟨1, List.range k, Nat.le_refl _, hn0, rfl, Bij.start hn0, H0.out.1, H0.out.2⟩
      case round =>
        obtain ⟨i, tl, hi1, hi, rfl, HB⟩ := hrel
        by_cases hlt : i < k
        · have hltI2 : (i : Int) < k := by omega
          by_cases hc0 : 0 < cs.length
          · have hc0I : (0 : Int) < cs.length := by omega
            have HLT := Lib.hid hlt
            obtain ⟨q, hq⟩ : ∃ q, i % cs.length = q := ⟨_, rfl⟩
            have hql : q < cs.length := by rw [← hq]; exact Nat.mod_lt _ hc0
            have hqI : (q : Int) < cs.length := by omega
            have hqt : (i : Int).tmod (cs.length : Int) = (q : Int) := by rw [Int.tmod_eq_emod_of_nonneg (by omega), ← hq]; rfl
            obtain ⟨c, hcc⟩ : ∃ c, cs[q]? = some c := ⟨_, List.getElem?_eq_getElem hql⟩
            obtain ⟨bc, oc2, rfl, hbc, hcw⟩ := HCX.out q c hcc
            have hc255 := HCB.out c (List.mem_of_getElem? hcc)
            have hcw6 := (HB.out.2.2.cell (p := ⟨bc, oc2 + q, none⟩) hbc).trans hcw
            simp only [encU8] at hcw6
            obtain ⟨r, hr⟩ : ∃ r, c % (k - 1) = r := ⟨_, rfl⟩
            have hrl : r < k - 1 := by rw [← hr]; exact Nat.mod_lt _ (by omega)
            have hrI : (r : Int) + 1 < k := by omega
            have hrt : (c : Int).tmod ((k : Int) - 1) = (r : Int) := by rw [show (k : Int) - 1 = ((k - 1 : Nat) : Int) by omega, Int.tmod_eq_emod_of_nonneg (by omega), ← hr]; rfl
            have hz1 : (cs.length : Int) ≠ 0 := by omega
            have hz2 : ((cs.length : Int) == 0) = false := by rw [beq_eq_false_iff_ne]; omega
            have hz3 : (k : Int) - 1 ≠ 0 := by omega
            have hz4 : ((k : Int) - 1 == 0) = false := by rw [beq_eq_false_iff_ne]; omega
            obtain ⟨a, ha⟩ : ∃ a, tl[i]? = some a := ⟨_, List.getElem?_eq_getElem (by rw [HB.out.1.len]; exact hlt)⟩
            obtain ⟨b, hb⟩ : ∃ b, tl[1 + r]? = some b := ⟨_, List.getElem?_eq_getElem (by rw [HB.out.1.len]; omega)⟩
            have ci : wr.cell? ⟨w.heap.size, i, none⟩ = some (.int .i64 (a : Int)) := cell_of_blk HB.out.2.1 (by simp [ha, encNat])
            have cj : wr.cell? ⟨w.heap.size, 1 + r, none⟩ = some (.int .i64 (b : Int)) := cell_of_blk HB.out.2.1 (by simp [hb, encNat])
            have fi : wr.frozen? ⟨w.heap.size, i, none⟩ = false := free_of_blk HB.out.2.1
            have fj : wr.frozen? ⟨w.heap.size, 1 + r, none⟩ = false := free_of_blk HB.out.2.1
            have hsw := Lib.hid (HB.out.1.swap ha hb (by omega) (by omega))
            have hb1 : (wr.setCell ⟨w.heap.size, i, none⟩ (.int .i64 (b : Int))).heap[w.heap.size]? = some (.cells ((tl.set i b).map encNat).toArray 3 (0, 0)) := by
              rw [heap_setCell_self HB.out.2.1]; simp [encNat, List.map_set]
            obtain ⟨x2, hx2⟩ : ∃ x2, (tl.set i b)[1 + r]? = some x2 := ⟨_, List.getElem?_eq_getElem (by rw [List.length_set, HB.out.1.len]; omega)⟩
            have cj2 : (wr.setCell ⟨w.heap.size, i, none⟩ (.int .i64 (b : Int))).cell? ⟨w.heap.size, 1 + r, none⟩ = some (.int .i64 (x2 : Int)) := cell_of_blk hb1 (by rw [List.getElem?_toArray, List.getElem?_map, hx2]; rfl)
            have fj2 : (wr.setCell ⟨w.heap.size, i, none⟩ (.int .i64 (b : Int))).frozen? ⟨w.heap.size, 1 + r, none⟩ = false := free_of_blk hb1
            have hb2 : Hid (((wr.setCell ⟨w.heap.size, i, none⟩ (.int .i64 (b : Int))).setCell ⟨w.heap.size, 1 + r, none⟩ (.int .i64 (a : Int))).heap[w.heap.size]? = some (.cells (((tl.set i b).set (1 + r) a).map encNat).toArray 3 (0, 0)) ∧ Below w.heap.size w ((wr.setCell ⟨w.heap.size, i, none⟩ (.int .i64 (b : Int))).setCell ⟨w.heap.size, 1 + r, none⟩ (.int .i64 (a : Int)))) := by
              refine ⟨?_, (HB.out.2.2.setCell (Nat.le_refl _) _).setCell (Nat.le_refl _) _⟩
              rw [heap_setCell_self hb1]; simp [encNat, List.map_set]
            clear hq hr ha hb hcc hcw hlt hc0 hbc hb1 hx2
            go_upto_region 11 with fail
            go_region
            all_goals go_wp2_with fail
            all_goals go_roundw
            all_goals first
              | (have := HLT.out; simp [intOf]; omega)
              | exact ⟨i + 1, _, by omega, HLT.out, by go_num, hsw.out, hb2.out.1, below_drewN (k := 1) hb2.out.2⟩
              | skip
          · have hc0I : ¬ (0 : Int) < cs.length := by omega
            go_wp2
            go_ret
            exact ⟨w.heap.size, tl, rfl, Nat.le_refl _, HB.out.2.1, HB.out.1, HB.out.2.2⟩
        · obtain rfl : i = k := by omega
          have hltI2 : ¬ (i : Int) < i := by omega
          go_wp2
          go_ret
          exact ⟨w.heap.size, tl, rfl, Nat.le_refl _, HB.out.2.1, HB.out.1, HB.out.2.2⟩
end Go.Proofs.Ytpfinkcnklkclaa
