/-
  The walk of the reference's Doms.
-/
import Derived.Test.YtpfinkcnklkclaaAns
set_option linter.unusedVariables false
set_option linter.unusedSimpArgs false
namespace Go.Proofs.Ytpfinkcnklkclaa
open Go.RowKit

theorem Try.info_bools : (Try.prog.info? 36).map (fun i => (i.zero, i.size, i.bytes)) = some (some (.slice none 0 0), 1, 24) := by kernel_rfl
theorem fromB_get {g : List (List Nat)} (hv : ValidG g) {fr : Nat} (hfr : fr < g.length) (out : Int) {x : Nat} (hx : x < g.length) : (fromL g fr out)[x]? = some (fromB g fr out x) := by
  have hl : x < (fromL g fr out).length := by rw [fromL_len hv hfr]; exact hx
  unfold fromB
  rw [List.getD_eq_getElem?_getD, List.getElem?_eq_getElem hl]; rfl
def domRow (g : List (List Nat)) (d : Nat) : List Bool := (List.range g.length).map (domsB g d)
def domRows (g : List (List Nat)) : List (List Bool) := (List.range g.length).map (domRow g)
def RetRows (w : World) (rows : List (List Bool)) (e : Ending) (w' : World) : Prop := ∃ v, e = .returned v ∧ RowsOf encBool w' w'.heap.size v rows ∧ Below w.heap.size w w'

/-- The rows made so far. -/
structure DomsMem (W w : World) (g : List (List Nat)) (ov : Value) (d : Nat) : Prop where
  ho : ∃ vs : List Value, vs.length = d ∧ w.ownsRow W.heap.size 36 1 ov d vs ∧ ∀ (k : Nat) (v : Value), vs[k]? = some v → ∃ b, v = .slice (some ⟨b, 0, none⟩) g.length g.length ∧ W.heap.size ≤ b ∧ w.heap[b]? = some (.cells ((domRow g k).map encBool).toArray 4 (0, 0))
  hb : Below W.heap.size W w
theorem DomsMem.below {W w w' : World} {g : List (List Nat)} {ov : Value} {d : Nat} (h : DomsMem W w g ov d) (hb : Below w.heap.size w w') : DomsMem W w' g ov d := by
  obtain ⟨⟨vs, h1, h2, h3⟩, h4⟩ := h
  refine ⟨⟨vs, h1, ownsRow_below h2 hb (Nat.le_refl _), fun k v hk => ?_⟩, h4.trans (hb.mono h4.size)⟩
  obtain ⟨b, e, h5, h6⟩ := h3 k v hk
  exact ⟨b, e, h5, below_blk hb h6 (lt_of_block h6)⟩
theorem DomsMem.push {W w w2 : World} {g : List (List Nat)} {ov ov' : Value} {d b : Nat} (h : DomsMem W w g ov d) (hr : w.heap[b]? = some (.cells ((domRow g d).map encBool).toArray 4 (0, 0))) (hbl : W.heap.size ≤ b)
    (o : Obj) (hg : (w.alloc o).grownBy w2 ov.ownBlock) (vs : List Value) (hvs : vs.length = d) (ho : w.ownsRow W.heap.size 36 1 ov d vs)
    (hvv : ∀ (k : Nat) (v : Value), vs[k]? = some v → ∃ b, v = .slice (some ⟨b, 0, none⟩) g.length g.length ∧ W.heap.size ≤ b ∧ w.heap[b]? = some (.cells ((domRow g k).map encBool).toArray 4 (0, 0)))
    (hown : w2.ownsRow W.heap.size 36 1 ov' (d + 1) (vs ++ [.slice (some ⟨b, 0, none⟩) g.length g.length])) : DomsMem W w2 g ov' (d + 1) := by
  have hbs := h.hb.size
  have keep : ∀ {b : Nat} {cs : Array Value}, w.heap[b]? = some (.cells cs 4 (0, 0)) → w2.heap[b]? = some (.cells cs 4 (0, 0)) := fun hb => grown_blk hg (alloc_blk hb) (ownsRow_block_ne ho hb (.inr (by decide)))
  refine ⟨⟨vs ++ [.slice (some ⟨b, 0, none⟩) g.length g.length], by simp [hvs], hown, fun k v hk => ?_⟩, (h.hb.alloc hbs o).grown hg (by simp; omega) (fun k hk => (ho.lt k hk).1)⟩
  by_cases hk2 : k < vs.length
  · rw [List.getElem?_append_left hk2] at hk
    obtain ⟨b', e, h5, h6⟩ := hvv k v hk
    exact ⟨b', e, h5, keep h6⟩
  · rw [List.getElem?_append_right (by omega)] at hk
    have hk3 : k = vs.length := by
      have := (List.getElem?_eq_some_iff.1 hk).1
      simp at this; omega
    subst hk3
    simp at hk
    exact ⟨b, hk.symm, hbl, by rw [hvs]; exact keep hr⟩
theorem ans_fromI {w : World} {sv : Value} {g : List (List Nat)} (h : GraphIn w sv g) (out : Int) : Calls Try.prog 31 #[.agg #[sv], .int .i64 0, .int .i64 out] w (RetBools w (fromL g 0 out)) := ans_from h 0 h.valid.1 out
def rowUpto (g : List (List Nat)) (d j : Nat) : List Bool := (domRow g d).take j ++ List.replicate (g.length - j) false
theorem rowUpto_set (g : List (List Nat)) (d j : Nat) (hj : j < g.length) : (rowUpto g d j).set j (domsB g d j) = rowUpto g d (j + 1) := by
  have hl : (domRow g d).length = g.length := by simp [domRow]
  apply List.ext_getElem?
  intro i
  rw [List.getElem?_set]
  have hlen : (rowUpto g d j).length = g.length := by simp [rowUpto, hl]; omega
  rw [hlen]
  have hget : ∀ j, j ≤ g.length → (rowUpto g d j)[i]? = if i < j then (domRow g d)[i]? else if i < g.length then some false else none := by
    intro j hj
    unfold rowUpto
    by_cases h : i < j
    · rw [List.getElem?_append_left (by simp [hl]; omega), List.getElem?_take, if_pos h, if_pos h]
    · rw [List.getElem?_append_right (by simp [hl]; omega), List.getElem?_replicate, if_neg h]
      simp only [List.length_take, hl]
      by_cases h2 : i < g.length
      · rw [if_pos h2, if_pos (by omega)]
      · rw [if_neg h2, if_neg (by omega)]
  by_cases h : j = i
  · subst h
    rw [if_pos rfl, if_pos hj, hget _ (by omega), if_pos (by omega)]
    simp [domRow, hj]
  · rw [if_neg h, hget _ (by omega), hget _ (by omega)]
    by_cases h2 : i < j
    · simp only [if_pos h2, if_pos (show i < j + 1 by omega)]
    · simp only [if_neg h2, if_neg (show ¬ i < j + 1 by omega)]
theorem rowUpto_at (g : List (List Nat)) (d j : Nat) (hj : j < g.length) : (rowUpto g d j)[j]? = some false := by
  have hl : (List.take j (domRow g d)).length = j := by simp [domRow]; omega
  unfold rowUpto
  rw [List.getElem?_append_right (by omega), hl, Nat.sub_self, List.getElem?_replicate, if_pos (by omega)]
theorem rowUpto_zero (g : List (List Nat)) (d : Nat) : rowUpto g d 0 = List.replicate g.length false := by simp [rowUpto]
theorem rowUpto_full (g : List (List Nat)) (d : Nat) : rowUpto g d g.length = domRow g d := by
  unfold rowUpto
  rw [List.take_of_length_le (by simp [domRow]), Nat.sub_self]
  simp

set_option maxRecDepth 100000 in
set_option maxHeartbeats 1600000 in
theorem doms_any {w : World} {sv : Value} {g : List (List Nat)} (h : GraphIn w sv g) : Calls Try.prog 32 #[.agg #[sv]] w (RetRows w (domRows g)) := by
  obtain ⟨a, cap, rfl, hcap⟩ := h.rows.form
  obtain ⟨ii, hii, hzi0, hzi1, hzi2⟩ := info_parts Try.info_bools
  have hn := h.len
  have hv := h.valid
  have hmk := run_make_row' (P := Try.prog) 36 4 (.bool false) 1 Try.underlying36 Try.info_bool rfl .i64 .i64 g.length (by omega) (by omega)
  have h1 := h.below ((Below.refl _ w).alloc (Nat.le_refl _) (.cells #[.slice a g.length cap] 24))
  have cg : (w.alloc (.cells #[.slice a g.length cap] 24)).cell? ⟨w.heap.size, 0, none⟩ = some (.slice a g.length cap) := cell_of_one (new_at rfl)
  have H1 := Lib.hid h1
  have HV := Lib.hid hv
  clear h h1 hv
  go_enter Try.func32, Try.ntmps32
  go_wp2_with (go_at_call 31; go_must (refine (ans_fromI H1.out (-1)).mono ?_; rintro e w1 ⟨ab, rfl, hab, hA, hb1⟩; rw [fromL_len HV.out HV.out.1]; have cg1 := (hb1.cell (p := ⟨w.heap.size, 0, none⟩) (by simp)).trans cg; have hw1 := Lib.hid (((Below.refl _ w).alloc (Nat.le_refl _) _).trans (hb1.mono (by simp))); have HG1 := Lib.hid (H1.out.below hb1); have HA := Lib.hid hA; clear cg hb1 hA))
  have hl1 : w.heap.size < w1.heap.size := World.block_lt_of_cell? w1 _ cg1
  go_loopw [4, 5] (fun ov dv wr => ∃ d : Nat, d ≤ g.length ∧ dv = .int .i64 (d : Int) ∧ Hid (DomsMem w1 wr g ov d)) (fun _ dv _ => g.length - (intOf dv).toNat)
  case atStart => exact ⟨0, Nat.zero_le _, rfl, ⟨[], rfl, World.ownsRow_nil _ _ _ _, fun k v hk => by simp at hk⟩, Below.refl _ _⟩
  case round =>
    obtain ⟨d, hd, rfl, HK⟩ := hrel
    have cgr := (HK.out.hb.cell (p := ⟨w.heap.size, 0, none⟩) hl1).trans cg1
    obtain ⟨vs, hvs, hown, hvv⟩ := HK.out.ho
    obtain ⟨oa, oc, rfl⟩ := ownsRow_form hown
    by_cases hlt : d < g.length
    · have hltI : (d : Int) < g.length := by omega
      have HLT := Lib.hid hlt
      have HG := Lib.hid (HG1.out.below HK.out.hb)
      have hszr := HK.out.hb.size
      have HVS := Lib.hid (And.intro hown hvv)
      clear hown hvv cg1
      go_wp2_with (go_at_call 31; go_must (refine (ans_fromI HG.out (d : Int)).mono ?_; rintro e w2 ⟨wb, rfl, hwb, hW, hb2⟩; rw [fromL_len HV.out HV.out.1]; have cg2 := (hb2.cell (p := ⟨w.heap.size, 0, none⟩) (show w.heap.size < wr.heap.size by omega)).trans cgr; have hD2 := Lib.hid (HK.out.below hb2); have HW := Lib.hid hW; have hs2 := hb2.size; have hB2 := Lib.hid hb2; clear cgr hb2 hW))
      have hA2 := Lib.hid (below_blk hB2.out (below_blk HK.out.hb HA.out (lt_of_block HA.out)) (by have := lt_of_block HA.out; have := HK.out.hb.size; omega))
      have hl2 : w.heap.size < w2.heap.size := World.block_lt_of_cell? w2 _ cg2
      go_loopw [8] (fun jv wx => ∃ j : Nat, j ≤ g.length ∧ jv = .int .i64 (j : Int) ∧ Hid (wx.heap[w2.heap.size]? = some (.cells ((rowUpto g d j).map encBool).toArray 4 (0, 0)) ∧ Below w2.heap.size w2 wx)) (fun jv _ => g.length - (intOf jv).toNat)
      case atStart =>
        refine ⟨0, Nat.zero_le _, rfl, ?_, (Below.refl _ _).alloc (Nat.le_refl _) _⟩
        rw [new_at rfl, toArray_madeCells, rowUpto_zero]; simp [encBool]
      case round =>
        obtain ⟨j, hj, rfl, HJ⟩ := hrel
        have cgx := (HJ.out.2.cell (p := ⟨w.heap.size, 0, none⟩) (show w.heap.size < w2.heap.size by omega)).trans cg2
        by_cases hlt2 : j < g.length
        · have hltI2 : (j : Int) < g.length := by omega
          have HLT2 := Lib.hid hlt2
          have hset : ∀ b : Bool, domsB g d j = b → Hid ((wr.setCell ⟨w2.heap.size, j, none⟩ (.bool b)).heap[w2.heap.size]? = some (.cells ((rowUpto g d (j + 1)).map encBool).toArray 4 (0, 0)) ∧ Below w2.heap.size w2 (wr.setCell ⟨w2.heap.size, j, none⟩ (.bool b))) := by
            intro b hb
            refine ⟨?_, HJ.out.2.setCell (Nat.le_refl _) _⟩
            rw [heap_setCell_self HJ.out.1, ← rowUpto_set g d j hlt2, hb]
            simp [encBool, List.map_set]
          have HSET := Lib.hid hset
          have cr : wr.cell? ⟨w2.heap.size, j, none⟩ = some (.bool false) := cell_of_blk HJ.out.1 (by simp [rowUpto_at g d j hlt2, encBool])
          have fr : wr.frozen? ⟨w2.heap.size, j, none⟩ = false := free_of_blk HJ.out.1
          have hAx := below_blk HJ.out.2 hA2.out (lt_of_block hA2.out)
          have hWx := below_blk HJ.out.2 HW.out (lt_of_block HW.out)
          obtain ⟨a0, ha0⟩ : ∃ a0, fromB g 0 (-1) d = a0 := ⟨_, rfl⟩
          obtain ⟨a1, ha1⟩ : ∃ a1, fromB g 0 (-1) j = a1 := ⟨_, rfl⟩
          obtain ⟨a2, ha2⟩ : ∃ a2, fromB g 0 (d : Int) j = a2 := ⟨_, rfl⟩
          have c0 : wr.cell? ⟨ab, d, none⟩ = some (.bool a0) := cell_of_blk hAx (by have := fromB_get HV.out HV.out.1 (-1) HLT.out; rw [ha0] at this; simp [this, encBool])
          have c1 : wr.cell? ⟨ab, j, none⟩ = some (.bool a1) := cell_of_blk hAx (by have := fromB_get HV.out HV.out.1 (-1) HLT2.out; rw [ha1] at this; simp [this, encBool])
          have c2 : wr.cell? ⟨wb, j, none⟩ = some (.bool a2) := cell_of_blk hWx (by have := fromB_get HV.out HV.out.1 (d : Int) HLT2.out; rw [ha2] at this; simp [this, encBool])
          have HDB : Hid (domsB g d j = (a0 && a1 && (decide (d = j) || !a2))) := by unfold domsB; rw [ha0, ha1, ha2]; rfl
          clear hset hAx hWx ha0 ha1 ha2 cg2
          cases a0 with
          | false =>
            go_wp2
            go_roundw
            case rel => exact ⟨j + 1, HLT2.out, by go_num, HSET.out _ (by rw [HDB.out]; rfl)⟩
            case measure => have := HLT2.out; simp [intOf]; omega
          | true =>
            cases a1 with
            | false =>
              go_wp2
              go_roundw
              case rel => exact ⟨j + 1, HLT2.out, by go_num, HSET.out _ (by rw [HDB.out]; rfl)⟩
              case measure => have := HLT2.out; simp [intOf]; omega
            | true =>
              by_cases hdj : d = j
              · have htst : ((d : Int) == (j : Int)) = true := by rw [beq_iff_eq]; omega
                have HDJ := Lib.hid hdj
                clear hdj
                go_wp2
                go_roundw
                case rel => exact ⟨j + 1, HLT2.out, by go_num, HSET.out _ (by rw [HDB.out, decide_eq_true HDJ.out]; rfl)⟩
                case measure => have := HLT2.out; simp [intOf]; omega
              · have htst : ((d : Int) == (j : Int)) = false := by rw [beq_eq_false_iff_ne]; omega
                have HDJ := Lib.hid hdj
                clear hdj
                go_wp2
                go_roundw
                case rel => exact ⟨j + 1, HLT2.out, by go_num, HSET.out _ (by rw [HDB.out, decide_eq_false HDJ.out]; rfl)⟩
                case measure => have := HLT2.out; simp [intOf]; omega
        · obtain rfl : j = g.length := by omega
          have hltI2 : ¬ (g.length : Int) < g.length := by omega
          have hDx := Lib.hid (hD2.out.below HJ.out.2)
          have hrx := HJ.out.1
          rw [rowUpto_full] at hrx
          have HRX := Lib.hid hrx
          obtain ⟨vs2, hvs2, hown2, hvv2⟩ := hDx.out.ho
          have HVV := Lib.hid (And.intro hown2 (And.intro hvs2 hvv2))
          have hsx := lt_of_block hrx
          have hsz2 := HK.out.hb.size
          have hlen2 : vs2.length ≤ 2000000 := by omega
          clear hvv2 hrx
          go_wp2_with (at_builtin; go_must (refine wpList_append_lies _ rfl (.tmp 57) (.tmp 59) 41 rfl w1.heap.size 36 ii (.slice none 0 0) 1 24 Try.underlying41 hii hzi0 hzi1 hzi2 rfl (by decide) _ d vs2 rfl (hown2.alloc _) ⟨wr.heap.size, 0, none⟩ 1 1 [.slice (some ⟨w2.heap.size, 0, none⟩) g.length g.length] rfl rfl (World.news_of_block (cs := #[.slice (some ⟨w2.heap.size, 0, none⟩) g.length g.length]) (new_at (by simp))) (by simp [Value.oneCell']) (by decide) (by unfold maxLen; omega) (by omega) (by simp; omega) (wr.heap.size + 1) (by simp) ?_; intro gq capq w6 hown6 hgrow6 hat6 hlt6; have HO6 := Lib.hid (And.intro hown6 hgrow6); clear hown6 hgrow6))
          go_roundw
          case rel => exact ⟨d + 1, HLT.out, by go_num, hDx.out.push HRX.out (by omega) _ HO6.out.2 vs2 hvs2 HVV.out.1 HVV.out.2.2 HO6.out.1⟩
          case measure => have := HLT.out; simp [intOf]; omega
    · obtain rfl : d = g.length := by omega
      have hltI : ¬ (g.length : Int) < g.length := by omega
      go_wp2
      go_ret
      have hs1 := hw1.out.size
      have hown' : wr.ownsRow w1.heap.size 36 1 (.slice oa g.length oc) vs.length (vs.map id) := by rw [List.map_id, hvs]; exact hown
      refine ⟨_, rfl, ⟨vs, sliceOf_own (enc := id) hown' (Nat.le_refl _), by rw [hvs]; simp [domRows], fun k rv row hk hrow => ?_⟩, hw1.out.trans (HK.out.hb.mono hs1)⟩
      obtain ⟨b, rfl, hb, hbl⟩ := hvv k rv hk
      have hrk : row = domRow g k := by
        unfold domRows at hrow
        have hkl : k < g.length := by rw [← hvs]; exact (List.getElem?_eq_some_iff.1 hk).1
        rw [List.getElem?_map, List.getElem?_range hkl] at hrow
        exact (Option.some.inj hrow).symm
      subst hrk
      have hl : (domRow g k).length = g.length := by simp [domRow]
      exact ⟨_, _, by rw [hl], by rw [hl]; exact Nat.le_refl _, fun q x hq => ⟨b, 0, rfl, lt_of_block hbl, by rw [Nat.zero_add]; exact cell_of_blk hbl (by simp [hq])⟩⟩
end Go.Proofs.Ytpfinkcnklkclaa
