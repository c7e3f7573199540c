/-
  The walk of the reference's Order.
-/
import Derived.Test.YtpfinkcnklkclaaSearch
set_option linter.unusedVariables false
set_option linter.unusedSimpArgs false
namespace Go.Proofs.Ytpfinkcnklkclaa
open Go.RowKit

theorem ref_valid_nat (w : World) (sv : Value) (g : List (List Nat)) (B : Nat) (hB : B ≤ w.heap.size) (h : RowsOf encNat w B sv g) (hv : ValidG g) (hn : g.length ≤ 2000000) (hr : ∀ row ∈ g, row.length ≤ 2000000) :
    Calls Try.prog 19 #[.agg #[sv]] w fun e w' => e = .returned (.bool true) ∧ Below w.heap.size w w' := by
  have := ref_valid w sv (g.map (List.map Int.ofNat)) B hB (rows_int h) (by simpa using hn) (by intro row hm; simp only [List.mem_map] at hm; obtain ⟨l, hl, rfl⟩ := hm; simpa using hr l hl)
  rw [valid_nat hv] at this
  exact this

theorem ro_alloc {n C : Nat} {W0 w' : World} {v : Value} (hc : w'.cell? ⟨n, 0, none⟩ = some v) (h : Below C W0 w') (hC : C ≤ W0.heap.size) (o : Obj) : (w'.alloc o).cell? ⟨n, 0, none⟩ = some v ∧ Below C W0 (w'.alloc o) :=
  ⟨(World.cell?_alloc_lt _ _ _ (cellLt hc)).trans hc, h.alloc (by have := h.size; omega) o⟩
theorem unseen_replicate (n : Nat) : unseen (List.replicate n false) = n := by simp [unseen]
theorem postL_len (g : List (List Nat)) : (postL g).length ≤ g.length := by
  unfold postL
  by_cases h : 0 < g.length
  · have := visit_facts g g.length (List.replicate g.length false, []) 0 (by rw [List.getElem?_replicate, if_pos h])
    simp only [unseen_replicate, List.length_nil] at this
    omega
  · have h0 : g.length = 0 := by omega
    rw [h0]; simp [visit]

set_option maxRecDepth 100000 in
set_option maxHeartbeats 1600000 in
theorem ref_order_any (w : World) (sv : Value) (g : List (List Nat)) (B : Nat) (hB : B ≤ w.heap.size) (h : RowsOf encNat w B sv g) (hv : ValidG g) (hn : g.length ≤ 2000000) (hr : ∀ row ∈ g, row.length ≤ 2000000) :
    Calls Try.prog 22 #[.agg #[sv]] w (RetNats w (orderL g)) := by
  obtain ⟨a, cap, rfl, hcap⟩ := h.form
  obtain ⟨ii, hii, hzi0, hzi1, hzi2⟩ := info_parts Try.info_int
  have hbel : Below w.heap.size w (w.alloc (.cells #[.slice a g.length cap] 24)) := (Below.refl _ _).alloc (Nat.le_refl _) _
  have cg : (w.alloc (.cells #[.slice a g.length cap] 24)).cell? ⟨w.heap.size, 0, none⟩ = some (.slice a g.length cap) := cell_of_one (new_at rfl)
  have HV := Lib.hid hv
  have HR := Lib.hid hr
  clear hv hr
  have hmk := run_make_row' (P := Try.prog) 36 4 (.bool false) 1 Try.underlying36 Try.info_bool rfl .i64 .i64 g.length (by omega) (by omega)
  go_enter Try.func22, Try.ntmps22
  go_wp2_with (go_at_call 19; go_must (refine (ref_valid_nat _ _ g B (by simp; omega) (h.below (hbel.mono hB)) HV.out hn HR.out).mono ?_; rintro e w1 ⟨rfl, hb1⟩; have hbw1 := hbel.trans (hb1.mono (by simp)); have cg1 := (hb1.cell (p := ⟨w.heap.size, 0, none⟩) (by simp)).trans cg; clear cg))
  have hrows := (h.below (hbw1.mono hB)).mono (B' := w1.heap.size) (by have := hbw1.size; omega)
  have hlg : w.heap.size < w1.heap.size := cellLt cg1
  have HROWS := Lib.hid hrows
  have hbB := Below.refl w1.heap.size w1
  have hsearch : ∀ W : World, W.heap[w1.heap.size]? = some (.cells (madeCells #[.bool false] g.length) 4 (0, 0)) → Below w1.heap.size w1 W → Calls Try.prog 38 #[.agg #[.slice a g.length cap], .int .i64 0, .slice (some ⟨w1.heap.size, 0, none⟩) g.length g.length, .slice none 0 0] W fun e w' =>
      ∃ a4 c4, e = .returned (.slice a4 (postL g).length c4) ∧ (w'.ownsRow w1.heap.size 3 1 (.slice a4 (postL g).length c4) (postL g).length ((postL g).map encNat) ∧ Below w1.heap.size w1 w') := by
    intro W hW hb
    refine (search_any w1 w1.heap.size w1.heap.size g a cap HROWS.out HV.out hn HR.out g.length W (List.replicate g.length false) (.slice none 0 0) [] 0 ⟨by rw [hW, toArray_madeCells]; simp [encBool], ⟨rfl, .inl ⟨rfl, rfl⟩⟩, hb, Nat.le_refl _⟩ HV.out.1 (by simp) (by rw [List.getElem?_replicate, if_pos HV.out.1]) (by rw [unseen_replicate]; exact Nat.le_refl _) (by rw [unseen_replicate]; simpa using hn)).mono ?_
    rintro e w' ⟨pv', rfl, hm, _⟩
    obtain ⟨a4, c4, rfl⟩ := ownsRow_form hm.hp
    exact ⟨a4, c4, rfl, hm.hp, hm.hb⟩
  have HSE := Lib.hid hsearch
  clear hsearch
  clear hrows hbel hb1
  go_cut [4] (fun v wx => ∃ a4 c4, v = .slice a4 (postL g).length c4 ∧ Hid (wx.ownsRow w1.heap.size 3 1 (.slice a4 (postL g).length c4) (postL g).length ((postL g).map encNat) ∧ Below w1.heap.size w1 wx))
  case first =>
    go_region_held3 (fun w' => w'.cell? ⟨w.heap.size, 0, none⟩ = some (.slice a g.length cap) ∧ Below w1.heap.size w1 w')
      (first
        | (go_split_ands; refine ⟨?_, ?_⟩ <;> assumption)
        | (go_split_ands; refine ⟨?_, Below.drew ?_⟩ <;> assumption)
        | (go_split_ands; exact ro_alloc ‹_› ‹_› (Nat.le_refl _) _))
      ((go_at_call 38; refine (HSE.out _ (by first | exact new_at (W := w1) rfl | exact new_at (W := w1.drew) rfl) (by repeat' (first | assumption | (with_reducible refine Below.drew ?_) | (with_reducible refine Below.alloc ?_ ?_ _) | exact Nat.le_refl _))).mono ?_; rintro e w5 ⟨a4, c4, rfl, HS⟩; have hb5 := HS.2; have hc5 := (hb5.cell (p := ⟨w.heap.size, 0, none⟩) hlg).trans cg1; have HS5 := Lib.hid HS; clear HS))
    all_goals (go_wp2_with fail; go_meet; exact ⟨a4, c4, rfl, HS5⟩)
  case rest =>
    obtain ⟨a4, c4, rfl, HS⟩ := hcut
    clear hmk
    have hpl := postL_len g
    have hwc := HS.out.2.size
    go_wp2_with fail
    go_loopw [5, 6] (fun v k wr => ∃ m : Nat, m ≤ (postL g).length ∧ k = .int .i64 ((postL g).length - 1 - m : Int) ∧ Hid (wr.ownsRow wc.heap.size 3 1 v m (((postL g).reverse.take m).map encNat) ∧ Below wc.heap.size wc wr)) (fun _ k _ => ((intOf k) + 1).toNat)
    case atStart => exact ⟨0, Nat.zero_le _, by simp, ⟨rfl, .inl ⟨rfl, rfl⟩⟩, Below.refl _ _⟩
    case round =>
      obtain ⟨m, hm, rfl, HI⟩ := hrel
      obtain ⟨ao, co, rfl⟩ := ownsRow_form HI.out.1
      by_cases hlt : m < (postL g).length
      · obtain ⟨p, hp⟩ : ∃ p : Nat, p = (postL g).length - 1 - m := ⟨_, rfl⟩
        have hpi : ((postL g).length - 1 - m : Int) = (p : Int) := by omega
        rw [hpi]
        have hpl2 : p < (postL g).length := by omega
        have hpi2 : (p : Int) < (postL g).length := by omega
        obtain ⟨y, hy⟩ : ∃ y, (postL g)[p]? = some y := ⟨_, List.getElem?_eq_getElem hpl2⟩
        obtain ⟨gp, cpp, e4, hgp, hgl⟩ := HS.out.1.form (by omega)
        cases e4
        have cy : wr.cell? ⟨gp, p, none⟩ = some (.int .i64 (y : Int)) := (HI.out.2.cell (p := ⟨gp, p, none⟩) hgl).trans ((HS.out.1.cellAt p (by omega)).trans (by simp [hy, encNat]))
        have htk : (postL g).reverse.take (m + 1) = (postL g).reverse.take m ++ [y] := by
          rw [List.take_add_one, List.getElem?_reverse (by omega), ← hp, hy]; rfl
        have HY := Lib.hid htk
        have hwr := HI.out.2.size
        have HP : Hid (p + m + 1 = (postL g).length) := by unfold Hid; omega
        clear hy htk hp hpi
        go_wp2_with (at_builtin; go_must (refine wpList_append_lies _ rfl (.tmp 24) (.tmp 29) 29 rfl wc.heap.size 3 ii (.int .i64 0) 1 8 Try.underlying29 hii hzi0 hzi1 hzi2 rfl (by decide) _ m _ rfl (HI.out.1.alloc _) ⟨wr.heap.size, 0, none⟩ 1 1 [.int .i64 (y : Int)] rfl rfl (World.news_of_block (cs := #[.int .i64 (y : Int)]) (new_at (by simp))) (by simp [Value.oneCell']) (by decide) (by unfold maxLen; omega) (by omega) (by simp; omega) (wr.heap.size + 1) (by simp) ?_; intro gq capq w6 hown6 hgrow6 hat6 hlt6; have HO6 := Lib.hid (And.intro hown6 hgrow6); clear hown6 hgrow6))
        go_roundw
        case rel =>
          have hP := HP.out
          refine ⟨m + 1, by omega, by rw [show ((postL g).length - 1 - ((m + 1 : Nat) : Int) : Int) = (p : Int) - 1 by omega], ?_, ?_⟩
          · rw [HY.out]; simpa [encNat] using HO6.out.1
          · exact (HI.out.2.alloc (Nat.le_trans hwr (Nat.le_refl _)) _).grown HO6.out.2 (by simp; omega) (fun k e => by have := (HI.out.1.lt k e).1; omega)
        case measure => simp [intOf] <;> omega
      · obtain rfl : m = (postL g).length := by omega
        have hneg : ((postL g).length - 1 - (postL g).length : Int) = -1 := by omega
        rw [hneg]
        go_wp2
        go_ret
        have hb := hbw1.trans (HS.out.2.mono hbw1.size)
        have hs1 := hbw1.size
        refine ⟨_, rfl, ?_, hb.trans (HI.out.2.mono hb.size)⟩
        have := ownsRow_mono HI.out.1 (base' := w.heap.size) hb.size
        rw [List.take_of_length_le (by simp)] at this
        unfold orderL
        rw [List.length_reverse]
        exact this
end Go.Proofs.Ytpfinkcnklkclaa
