/-
  The walk of the reference's Loops.
-/
import Derived.Test.YtpfinkcnklkclaaRDom
import Derived.Test.YtpfinkcnklkclaaMath
set_option linter.unusedVariables false
set_option linter.unusedSimpArgs false
namespace Go.Proofs.Ytpfinkcnklkclaa
open Go.RowKit

/-- The tails below u; after k successors of u. -/
def tailUp (g : List (List Nat)) (h u : Nat) : List Bool := (List.range g.length).map fun x => decide (x < u) && tailB g h x
def tailRow (g : List (List Nat)) (h u k : Nat) : Bool := ((succ g u).take k).contains h && domsB g h u
def tailUp2 (g : List (List Nat)) (h u k : Nat) : List Bool := (tailUp g h u).set u (tailRow g h u k)
def backUp (g : List (List Nat)) (h u : Nat) : Bool := (List.range u).any (tailB g h)
theorem tailUp_get (g : List (List Nat)) (h u x : Nat) : (tailUp g h u)[x]? = if x < g.length then some (decide (x < u) && tailB g h x) else none := by
  unfold tailUp
  rw [List.getElem?_map]
  by_cases hx : x < g.length
  · rw [List.getElem?_range hx, if_pos hx]; rfl
  · rw [List.getElem?_eq_none (by simpa using hx), if_neg hx]; rfl
theorem tailUp_len (g : List (List Nat)) (h u : Nat) : (tailUp g h u).length = g.length := by simp [tailUp]
theorem tailUp_zero (g : List (List Nat)) (h : Nat) : tailUp g h 0 = List.replicate g.length false := by
  apply List.ext_getElem?
  intro x
  rw [tailUp_get, List.getElem?_replicate]
  simp
theorem tailUp2_zero (g : List (List Nat)) (h u : Nat) : tailUp2 g h u 0 = tailUp g h u := by
  unfold tailUp2 tailRow
  apply List.ext_getElem?
  intro x
  rw [List.getElem?_set]
  by_cases e : u = x
  · subst e
    rw [if_pos rfl, tailUp_len, tailUp_get]
    simp
  · rw [if_neg e]
theorem tailUp2_get (g : List (List Nat)) {h u k : Nat} (hu : u < g.length) : (tailUp2 g h u k)[u]? = some (tailRow g h u k) := by
  unfold tailUp2; rw [List.getElem?_set_self (by rw [tailUp_len]; exact hu)]
theorem tailUp2_set (g : List (List Nat)) (h u k : Nat) (b : Bool) (hb : tailRow g h u (k + 1) = b) : (tailUp2 g h u k).set u b = tailUp2 g h u (k + 1) := by
  unfold tailUp2; rw [List.set_set, hb]
theorem tailRow_succ {g : List (List Nat)} {h u k s : Nat} (hs : (succ g u)[k]? = some s) : tailRow g h u (k + 1) = (tailRow g h u k || (decide (s = h) && domsB g h u)) := by
  unfold tailRow
  rw [List.take_add_one, hs]
  simp only [Option.toList_some, List.contains_eq_mem, List.mem_append, List.mem_singleton]
  by_cases e : s = h
  · subst e; simp
  · have e2 : ¬ h = s := fun e2 => e e2.symm
    simp [e, e2]
theorem tailRow_full {g : List (List Nat)} {h u k : Nat} (hk : (succ g u).length = k) : tailRow g h u k = tailB g h u := by
  unfold tailRow tailB
  rw [List.take_of_length_le (by omega)]
theorem tailUp2_full {g : List (List Nat)} {h u k : Nat} (hk : (succ g u).length = k) : tailUp2 g h u k = tailUp g h (u + 1) := by
  unfold tailUp2
  rw [tailRow_full hk]
  apply List.ext_getElem?
  intro x
  rw [List.getElem?_set]
  by_cases e : u = x
  · subst e
    rw [if_pos rfl, tailUp_len, tailUp_get]
    simp
  · rw [if_neg e, tailUp_get, tailUp_get]
    have : decide (x < u) = decide (x < u + 1) := by rw [decide_eq_decide]; omega
    rw [this]
theorem backUp_succ (g : List (List Nat)) (h u : Nat) : backUp g h (u + 1) = (backUp g h u || tailB g h u) := by
  unfold backUp; rw [List.range_succ, List.any_append]; simp
theorem tailUp_full {g : List (List Nat)} {h u : Nat} (hu : u < g.length) : (tailUp g h g.length)[u]? = some (tailB g h u) := by
  rw [tailUp_get, if_pos hu, decide_eq_true hu, Bool.true_and]
/-- The loops with heads below i. -/
def loopsTo (g : List (List Nat)) (i : Nat) : List (Nat × List Nat) := (List.range i).filterMap fun h => if headB g h then some (h, bodyL g h) else none
theorem loopsTo_succ (g : List (List Nat)) (i : Nat) : loopsTo g (i + 1) = loopsTo g i ++ if headB g i then [(i, bodyL g i)] else [] := by
  unfold loopsTo
  rw [List.range_succ, List.filterMap_append]
  congr 1
  cases h : headB g i <;> simp [h]
theorem loopsTo_full (g : List (List Nat)) : loopsTo g g.length = loopsL g := rfl
theorem loopsTo_len (g : List (List Nat)) (i : Nat) : (loopsTo g i).length ≤ i := by
  have := List.length_filterMap_le (fun h => if headB g h then some (h, bodyL g h) else none) (List.range i)
  rw [List.length_range] at this
  exact this
def bF (g : List (List Nat)) (h : Nat) (y : Int) : Bool := bodyB g h y.toNat
theorem bodyUp_bF (g : List (List Nat)) (h : Nat) : bodyUp (bF g h) g.length = bodyL g h := by
  unfold bodyUp bodyL bF; simp
/-- In the body so far. -/
def inUp (g : List (List Nat)) (h x u : Nat) : Bool := decide (x = h) || (List.range u).any fun t => fromB g 0 (-1) x && tailB g h t && fromB g x h t
theorem inUp_succ (g : List (List Nat)) (h x u : Nat) : inUp g h x (u + 1) = (inUp g h x u || (fromB g 0 (-1) x && tailB g h u && fromB g x h u)) := by
  unfold inUp; rw [List.range_succ, List.any_append, Bool.or_assoc]; simp
theorem inUp_full (g : List (List Nat)) (h x : Nat) : inUp g h x g.length = bF g h (x : Int) := by
  unfold inUp bF bodyB; rw [Int.toNat_natCast]
theorem BodyMem.below {V W W' : World} {q i : Nat} {bv : Value} {bs : List Nat} (h : BodyMem V W q i bv bs) (hb : Below W.heap.size W W') : BodyMem V W' q i bv bs :=
  ⟨below_blk hb h.hq (lt_of_block h.hq), ownsRow_below h.ho hb (Nat.le_refl _), h.hb.trans (hb.mono (by have := lt_of_block h.hq; omega))⟩

set_option maxRecDepth 100000 in
set_option maxHeartbeats 3200000 in
theorem ans_ref_loops {w : World} {sv : Value} {g : List (List Nat)} (h : GraphIn w sv g) : Calls Try.prog 27 #[.agg #[sv]] w (RetLoops w (loopsL g)) := by
  obtain ⟨a, cap, rfl, hcap⟩ := h.rows.form
  obtain ⟨bg, og, rfl⟩ : ∃ bg og, a = some ⟨bg, og, none⟩ := by
    obtain ⟨b, o, _, _, e, _⟩ := h.rows.row (List.getElem?_eq_getElem h.valid.1); exact ⟨b, o, e⟩
  have hn := h.len
  have hv := h.valid
  have hmk := run_make_row' (P := Try.prog) 36 4 (.bool false) 1 Try.underlying36 Try.info_bool rfl .i64 .i64 g.length (by omega) (by omega)
  have h1 := h.below ((Below.refl _ w).alloc (Nat.le_refl _) (.cells #[.slice (some ⟨bg, og, none⟩) g.length cap] 24))
  have cg : (w.alloc (.cells #[.slice (some ⟨bg, og, none⟩) g.length cap] 24)).cell? ⟨w.heap.size, 0, none⟩ = some (.slice (some ⟨bg, og, none⟩) g.length cap) := cell_of_one (new_at rfl)
  have H1 := Lib.hid h1
  have HV := Lib.hid hv
  have HRL := Lib.hid h.row
  clear h h1 hv
  have hdl : (domRows g).length = g.length := by simp [domRows]
  go_enter Try.func27, Try.ntmps27
  go_wp2_with (first
    | (go_at_call 19; go_must (refine (ans_ref_valid H1.out).mono ?_; rintro e w1 ⟨rfl, hb1⟩; have cg1 := (hb1.cell (p := ⟨w.heap.size, 0, none⟩) (by simp)).trans cg; have HG1 := Lib.hid (H1.out.below hb1); have hw1 := Lib.hid (((Below.refl _ w).alloc (Nat.le_refl _) _).trans (hb1.mono (by simp))); have hl1 : w.heap.size < w1.heap.size := World.block_lt_of_cell? w1 _ cg1; clear cg hb1))
    | (go_at_call 32; go_must (refine (doms_any HG1.out).mono ?_; rintro e w2 ⟨v2, rfl, hR, hb2⟩; obtain ⟨da, dc, rfl, hdc⟩ := hR.form; rw [hdl]; have cg2 := (hb2.cell (p := ⟨w.heap.size, 0, none⟩) hl1).trans cg1; have hw2 := Lib.hid (hw1.out.trans (hb2.mono hw1.out.size)); have HR := Lib.hid hR; have HG2 := Lib.hid (HG1.out.below hb2); have hl2 : w.heap.size < w2.heap.size := World.block_lt_of_cell? w2 _ cg2; clear cg1 hb2 hR hw1))
    | (go_at_call 31; go_must (refine (ans_fromI HG2.out (-1)).mono ?_; rintro e w3 ⟨ab, rfl, hab, hA, hb3⟩; rw [fromL_len HV.out HV.out.1]; have cg3 := (hb3.cell (p := ⟨w.heap.size, 0, none⟩) hl2).trans cg2; have hw3 := Lib.hid (hw2.out.trans (hb3.mono hw2.out.size)); have HG3 := Lib.hid (HG2.out.below hb3); have HR3 := Lib.hid ((HR.out.below hb3).mono hb3.size); have HA := Lib.hid hA; have hl3 : w.heap.size < w3.heap.size := World.block_lt_of_cell? w3 _ cg3; clear cg2 hb3 hA hw2 HR)))
  go_loopw [6, 7] (fun ov iv wr => ∃ i : Nat, i ≤ g.length ∧ iv = .int .i64 (i : Int) ∧ Hid (OutMem w3.heap.size wr ov (loopsTo g i) ∧ Below w3.heap.size w3 wr)) (fun _ iv _ => g.length - (intOf iv).toNat)
  case atStart => exact ⟨0, Nat.zero_le _, rfl, OutMem.nil _ _, Below.refl _ _⟩
  case round =>
    obtain ⟨i, hi, rfl, HK⟩ := hrel
    have cgr := (HK.out.2.cell (p := ⟨w.heap.size, 0, none⟩) hl3).trans cg3
    by_cases hlt : i < g.length
    · have hltI : (i : Int) < g.length := by omega
      have HLT := Lib.hid hlt
      have HG := Lib.hid (HG3.out.below HK.out.2)
      have HRr := Lib.hid ((HR3.out.below HK.out.2).mono HK.out.2.size)
      have HAr := Lib.hid (below_blk HK.out.2 HA.out (lt_of_block HA.out))
      have hsr : w.heap.size < wr.heap.size := World.block_lt_of_cell? wr _ cgr
      clear cg3 hlt
      generalize hW : wr = W at *
      clear hW
      go_wp2
      go_loopw [9, 10] (fun bk uv wx => ∃ (u : Nat) (b0 : Bool), u ≤ g.length ∧ uv = .int .i64 (u : Int) ∧ bk = .bool b0 ∧ Hid (b0 = backUp g i u ∧ wx.heap[W.heap.size]? = some (.cells ((tailUp g i u).map encBool).toArray 4 (0, 0)) ∧ Below W.heap.size W wx)) (fun _ uv _ => g.length - (intOf uv).toNat)
      case atStart =>
        refine ⟨0, false, Nat.zero_le _, rfl, rfl, rfl, ?_, (Below.refl _ _).alloc (Nat.le_refl _) _⟩
        rw [new_at rfl, toArray_madeCells, tailUp_zero]; simp [encBool]
      case round =>
        obtain ⟨u, b0, hu, rfl, rfl, HU⟩ := hrel
        have cgu := (HU.out.2.2.cell (p := ⟨w.heap.size, 0, none⟩) hsr).trans cgr
        by_cases hltu : u < g.length
        · have hltuI : (u : Int) < g.length := by omega
          have HLTU := Lib.hid hltu
          obtain ⟨row, hrow⟩ : ∃ row, g[u]? = some row := ⟨_, List.getElem?_eq_getElem hltu⟩
          have hsucc : succ g u = row := by unfold succ; rw [List.getD_eq_getElem?_getD, hrow]; rfl
          have hrl := HRL.out row (List.mem_of_getElem? hrow)
          have HROW := Lib.hid (And.intro hrow hsucc)
          clear hrow hsucc hltu
          go_wp2
          go_loopw [9, 11] (fun bk kv wx => ∃ (k : Nat) (b1 : Bool), k ≤ row.length ∧ kv = .int .i64 (k : Int) ∧ bk = .bool b1 ∧ Hid (b1 = (backUp g i u || tailRow g i u k) ∧ wx.heap[W.heap.size]? = some (.cells ((tailUp2 g i u k).map encBool).toArray 4 (0, 0)) ∧ Below W.heap.size W wx)) (fun _ kv _ => row.length - (intOf kv).toNat)
          case atStart =>
            refine ⟨0, b0, Nat.zero_le _, rfl, rfl, ?_, ?_, HU.out.2.2⟩
            · rw [HU.out.1]; simp [tailRow]
            · rw [tailUp2_zero]; exact HU.out.2.1
          case round =>
            obtain ⟨k, b1, hk, rfl, rfl, HX⟩ := hrel
            have cgx := (HX.out.2.2.cell (p := ⟨w.heap.size, 0, none⟩) hsr).trans cgr
            have HGx := Lib.hid (HG.out.below HX.out.2.2)
            obtain ⟨bg', og', a2, cap2, e', hbg', hc', _, hx'⟩ := HGx.out.rows.row HROW.out.1
            cases e'
            by_cases hltk : k < row.length
            · have hltkI : (k : Int) < row.length := by omega
              have HLTK := Lib.hid hltk
              obtain ⟨s, hsk⟩ : ∃ s, row[k]? = some s := ⟨_, List.getElem?_eq_getElem hltk⟩
              obtain ⟨b2, o2, rfl, hb2, cs1⟩ := hx' k s hsk
              simp only [encNat] at cs1
              have hrs := tailRow_succ (h := i) (by rw [HROW.out.2]; exact hsk)
              have HRS := Lib.hid hrs
              obtain ⟨da0, do0, a3, cap3, rfl, hc3, hcy⟩ := dom_cell (HRr.out.below HX.out.2.2) HLT.out
              obtain ⟨b4, o4, rfl, hc4⟩ := hcy u HLTU.out
              obtain ⟨q, hq⟩ : ∃ q, domsB g i u = q := ⟨_, rfl⟩
              rw [hq] at hc4
              have ct0 := tailUp2_get g (h := i) (k := k) HLTU.out
              obtain ⟨t0, ht0⟩ : ∃ t0, tailRow g i u k = t0 := ⟨_, rfl⟩
              rw [ht0] at ct0
              have ctl : wr.cell? ⟨W.heap.size, u, none⟩ = some (.bool t0) := cell_of_blk HX.out.2.1 (by simp [ct0, encBool])
              have ftl : wr.frozen? ⟨W.heap.size, u, none⟩ = false := free_of_blk HX.out.2.1
              have HQ := Lib.hid (And.intro hq ht0)
              have hset : Hid (tailRow g i u (k + 1) = true → (wr.setCell ⟨W.heap.size, u, none⟩ (.bool true)).heap[W.heap.size]? = some (.cells ((tailUp2 g i u (k + 1)).map encBool).toArray 4 (0, 0)) ∧ Below W.heap.size W (wr.setCell ⟨W.heap.size, u, none⟩ (.bool true))) := by
                intro hb
                refine ⟨?_, HX.out.2.2.setCell (Nat.le_refl _) _⟩
                rw [heap_setCell_self HX.out.2.1, ← tailUp2_set g i u k true hb]
                simp [encBool, List.map_set]
              clear hsk hx' hcy hrs ct0 hq ht0 hltk hbg' hb2
              by_cases hsi : s = i
              · have htst : ((s : Int) == (i : Int)) = true := by rw [beq_iff_eq]; omega
                have HSI := Lib.hid hsi
                clear hsi
                cases q with
                | true =>
                  go_wp2
                  go_roundw
                  case rel =>
                    have e1 : tailRow g i u (k + 1) = true := by rw [HRS.out, HQ.out.1, decide_eq_true HSI.out]; simp
                    exact ⟨k + 1, true, HLTK.out, by go_num, rfl, by rw [e1]; simp, hset.out e1⟩
                  case measure => have := HLTK.out; simp [intOf]; omega
                | false =>
                  go_wp2
                  go_roundw
                  case rel =>
                    have e1 : tailRow g i u (k + 1) = tailRow g i u k := by rw [HRS.out, HQ.out.1]; simp
                    refine ⟨k + 1, b1, HLTK.out, by go_num, rfl, ?_, ?_, HX.out.2.2⟩
                    · rw [e1]; exact HX.out.1
                    · have := HX.out.2.1; unfold tailUp2 at this ⊢; rw [e1]; exact this
                  case measure => have := HLTK.out; simp [intOf]; omega
              · have htst : ((s : Int) == (i : Int)) = false := by rw [beq_eq_false_iff_ne]; omega
                have HSI := Lib.hid hsi
                clear hsi
                go_wp2
                go_roundw
                case rel =>
                  have e1 : tailRow g i u (k + 1) = tailRow g i u k := by rw [HRS.out, decide_eq_false HSI.out]; simp
                  refine ⟨k + 1, b1, HLTK.out, by go_num, rfl, ?_, ?_, HX.out.2.2⟩
                  · rw [e1]; exact HX.out.1
                  · have := HX.out.2.1; unfold tailUp2 at this ⊢; rw [e1]; exact this
                case measure => have := HLTK.out; simp [intOf]; omega
            · obtain rfl : k = row.length := by omega
              have hltkI : ¬ (row.length : Int) < row.length := by omega
              go_wp2
              go_roundw
              case rel =>
                have hl := HROW.out.2
                have hl2 : (succ g u).length = row.length := by rw [hl]
                refine ⟨u + 1, b1, HLTU.out, by go_num, rfl, ?_, ?_, HX.out.2.2⟩
                · rw [backUp_succ, HX.out.1, tailRow_full hl2]
                · rw [← tailUp2_full hl2]; exact HX.out.2.1
              case measure => have := HLTU.out; simp [intOf]; omega
        · obtain rfl : u = g.length := by omega
          have hltuI : ¬ (g.length : Int) < g.length := by omega
          have hbk : b0 = headB g i := HU.out.1
          have HTL := Lib.hid HU.out.2.1
          have HBW := Lib.hid HU.out.2.2
          have HBK := Lib.hid hbk
          clear HU hbk
          generalize hW6 : wr = W6 at *
          clear hW6
          cases b0 with
          | false =>
            go_wp2
            go_roundw
            case rel =>
              refine ⟨i + 1, HLT.out, by go_num, ?_, HK.out.2.trans (HBW.out.mono HK.out.2.size)⟩
              rw [loopsTo_succ, ← HBK.out]
              simpa using HK.out.1.below HBW.out (Nat.le_refl _)
            case measure => have := HLT.out; simp [intOf]; omega
          | true =>
            have cg6 := (HBW.out.cell (p := ⟨w.heap.size, 0, none⟩) hsr).trans cgr
            have hs6 : w.heap.size < W6.heap.size := World.block_lt_of_cell? W6 _ cg6
            have HG6 := Lib.hid (HG.out.below HBW.out)
            have HA6 := Lib.hid (below_blk HBW.out HAr.out (lt_of_block HAr.out))
            have hst6 := lt_of_block HTL.out
            have hcg : ∀ o : Obj, (W6.alloc o).cell? ⟨w.heap.size, 0, none⟩ = some (.slice (some ⟨bg, og, none⟩) g.length cap) := fun o => (World.cell?_alloc_lt _ _ _ hs6).trans cg6
            clear cgr
            go_wp2
            go_loopw [13] (fun xv wx => ∃ x : Nat, x ≤ g.length ∧ xv = .int .i64 (x : Int) ∧ ∃ bv, Hid (BodyMem W6 wx W6.heap.size i bv (bodyUp (bF g i) x))) (fun xv _ => g.length - (intOf xv).toNat)
            case atStart => exact ⟨0, Nat.zero_le _, rfl, _, BodyMem.start W6 i⟩
            case round =>
              obtain ⟨x, hx, rfl, bv1, HBD⟩ := hrel
              have cgx := (HBD.out.hb.cell (p := ⟨w.heap.size, 0, none⟩) hs6).trans cg6
              by_cases hltx : x < g.length
              · have hltxI : (x : Int) < g.length := by omega
                have HLTX := Lib.hid hltx
                have HGx := Lib.hid (HG6.out.below HBD.out.hb)
                have hsx : w.heap.size < wr.heap.size := World.block_lt_of_cell? wr _ cgx
                clear hltx hcg
                go_wp2_with (go_at_call 31; go_must (refine (ans_from HGx.out x HLTX.out (i : Int)).mono ?_; rintro e w7 ⟨tb, rfl, htb, hT, hb7⟩; rw [fromL_len HV.out HLTX.out]; have cg7 := (hb7.cell (p := ⟨w.heap.size, 0, none⟩) hsx).trans cgx; have HBD7 := Lib.hid (HBD.out.below hb7); have HT := Lib.hid hT; clear cgx hb7 hT))
                generalize hd0 : ((x : Int) == (i : Int)) = d0
                have hd0' : d0 = decide (x = i) := by rw [← hd0, Bool.eq_iff_iff, beq_iff_eq, decide_eq_true_eq]; omega
                have HD0 := Lib.hid hd0'
                clear hd0 hd0'
                have HA7 := Lib.hid (below_blk HBD7.out.hb HA6.out (lt_of_block HA6.out))
                have HTL7 := Lib.hid (below_blk HBD7.out.hb HTL.out hst6)
                obtain ⟨q0, hq0⟩ : ∃ q0, fromB g 0 (-1) x = q0 := ⟨_, rfl⟩
                have cA7 : w7.cell? ⟨ab, x, none⟩ = some (.bool q0) := cell_of_blk HA7.out (by have := fromB_get HV.out HV.out.1 (-1) HLTX.out; rw [hq0] at this; simp [this, encBool])
                have HQ0 := Lib.hid hq0
                clear hq0
                go_loopw [14, 16] (fun nv uv wx => ∃ (u : Nat) (b0 : Bool), u ≤ g.length ∧ uv = .int .i64 (u : Int) ∧ nv = .bool b0 ∧ Hid (b0 = inUp g i x u) ∧ wx = w7) (fun _ uv _ => g.length - (intOf uv).toNat)
                case atStart => exact ⟨0, d0, Nat.zero_le _, rfl, rfl, by show d0 = _; rw [HD0.out]; simp [inUp], rfl⟩
                case round =>
                  obtain ⟨u, b0, hu, rfl, rfl, HIN, rfl⟩ := hrel
                  by_cases hltu : u < g.length
                  · have hltuI : (u : Int) < g.length := by omega
                    have HLTU := Lib.hid hltu
                    obtain ⟨q1, hq1⟩ : ∃ q1, tailB g i u = q1 := ⟨_, rfl⟩
                    obtain ⟨q2, hq2⟩ : ∃ q2, fromB g x (i : Int) u = q2 := ⟨_, rfl⟩
                    have cT7 : wr.cell? ⟨W.heap.size, u, none⟩ = some (.bool q1) := cell_of_blk HTL7.out (by have := tailUp_full (g := g) (h := i) hltu; rw [hq1] at this; simp [this, encBool])
                    have cF7 : wr.cell? ⟨tb, u, none⟩ = some (.bool q2) := cell_of_blk HT.out (by have := fromB_get HV.out HLTX.out (i : Int) hltu; rw [hq2] at this; simp [this, encBool])
                    have hsu : Hid (inUp g i x (u + 1) = (b0 || (q0 && q1 && q2))) := by show inUp g i x (u + 1) = _; rw [inUp_succ, ← HIN.out, HQ0.out, hq1, hq2]
                    clear hq1 hq2 hltu
                    cases b0 with
                    | true =>
                      go_wp2
                      go_roundw
                      case rel => exact ⟨u + 1, true, HLTU.out, by go_num, rfl, by show _ = _; rw [hsu.out]; rfl, trivial⟩
                      case measure => have := HLTU.out; simp [intOf]; omega
                    | false =>
                      cases q0 with
                      | false =>
                        go_wp2
                        go_roundw
                        case rel => exact ⟨u + 1, false, HLTU.out, by go_num, rfl, by show _ = _; rw [hsu.out]; rfl, trivial⟩
                        case measure => have := HLTU.out; simp [intOf]; omega
                      | true =>
                        cases q1 with
                        | false =>
                          go_wp2
                          go_roundw
                          case rel => exact ⟨u + 1, false, HLTU.out, by go_num, rfl, by show _ = _; rw [hsu.out]; rfl, trivial⟩
                          case measure => have := HLTU.out; simp [intOf]; omega
                        | true =>
                          go_wp2
                          go_roundw
                          case rel => exact ⟨u + 1, q2, HLTU.out, by go_num, rfl, by show _ = _; rw [hsu.out]; simp, trivial⟩
                          case measure => have := HLTU.out; simp [intOf]; omega
                  · obtain rfl : u = g.length := by omega
                    have hltuI : ¬ (g.length : Int) < g.length := by omega
                    have hfin : b0 = bF g i (x : Int) := by rw [HIN.out, inUp_full]
                    have HFIN := Lib.hid hfin
                    have hsu := bodyUp_succ (bF g i) x
                    rw [← hfin] at hsu
                    have HSU := Lib.hid hsu
                    have hbl := bodyUp_len (bF g i) x
                    clear hsu hfin
                    cases b0 with
                    | false =>
                      go_wp2
                      go_roundw
                      case rel => exact ⟨x + 1, HLTX.out, by go_num, bv1, by rw [HSU.out]; simpa using HBD7⟩
                      case measure => have := HLTX.out; simp [intOf]; omega
                    | true =>
                      obtain ⟨ii, hii, hzi0, hzi1, hzi2⟩ := info_parts Try.info_int
                      obtain ⟨ab2, cb2, rfl⟩ := ownsRow_form HBD7.out.ho
                      have cq : wr.cell? ⟨W6.heap.size, 1, none⟩ = some (.slice ab2 (bodyUp (bF g i) x).length cb2) := cell_of_blk HBD7.out.hq (by simp)
                      go_wp2_with (at_builtin; go_must (refine wpList_append_lies _ rfl (.tmp 121) (.tmp 123) 29 rfl (W6.heap.size + 1) 3 ii (.int .i64 0) 1 8 Try.underlying29 hii hzi0 hzi1 hzi2 rfl (by decide) _ (bodyUp (bF g i) x).length ((bodyUp (bF g i) x).map encNat) rfl (HBD7.out.ho.alloc _) ⟨wr.heap.size, 0, none⟩ 1 1 [.int .i64 (x : Int)] rfl rfl (World.news_of_block (cs := #[.int .i64 (x : Int)]) (new_at (by simp))) (by simp [Value.oneCell']) (by decide) (by unfold maxLen; omega) (by omega) (by have := lt_of_block HBD7.out.hq; simp; omega) (wr.heap.size + 1) (by simp) ?_; intro gq capq w5 hown5 hgrow hat hlt5; have c5 := cell_of_blk (i := 1) (v := .slice ab2 (bodyUp (bF g i) x).length cb2) (grown_blk hgrow (alloc_blk HBD7.out.hq) (fun e => by have := (HBD7.out.ho.lt _ e).1; omega)) (by simp); have f5 := free_of_blk (i := 1) (grown_blk hgrow (alloc_blk HBD7.out.hq) (fun e => by have := (HBD7.out.ho.lt _ e).1; omega)); have HO5 := Lib.hid hown5; clear hown5))
                      go_roundw
                      case rel => exact ⟨x + 1, HLTX.out, by go_num, _, by rw [HSU.out]; exact HBD7.out.push _ hgrow (by simpa [encNat] using HO5.out)⟩
                      case measure => have := HLTX.out; simp [intOf]; omega
              · obtain rfl : x = g.length := by omega
                have hltxI : ¬ (g.length : Int) < g.length := by omega
                obtain ⟨ic, hic, hzc0, hzc1, hzc2⟩ := info_parts Try.info_cycle
                obtain ⟨ab2, cb2, rfl⟩ := ownsRow_form HBD.out.ho
                have cq0 : wr.cell? ⟨W6.heap.size, 0, none⟩ = some (.int .i64 (i : Int)) := cell_of_blk HBD.out.hq (by simp)
                have cq1 : wr.cell? ⟨W6.heap.size, 1, none⟩ = some (.slice ab2 (bodyUp (bF g i) g.length).length cb2) := cell_of_blk HBD.out.hq (by simp)
                have hbV : Below W.heap.size W wr := HBW.out.trans (HBD.out.hb.mono HBW.out.size)
                obtain ⟨bvs, hl1, hl2, hl3⟩ := HK.out.1.below hbV (Nat.le_refl _)
                obtain ⟨ao, co, rfl⟩ := ownsRow_form hl2
                have hlen := loopsTo_len g i
                have HL2 := Lib.hid hl2
                have HL13 := Lib.hid (And.intro hl1 hl3)
                have HBV := Lib.hid hbV
                clear hl1 hl2 hl3 hbV hcg
                go_wp2_with (at_builtin; go_must (refine wpList_append_lies _ rfl (.tmp 126) (.tmp 128) 32 rfl w3.heap.size 44 ic _ 2 32 Try.underlying32 hic hzc0 hzc1 hzc2 rfl (by decide) _ (loopsTo g i).length (flatC (loopsTo g i) bvs) rfl (HL2.out.alloc _) ⟨wr.heap.size, 0, none⟩ 1 1 [.int .i64 (i : Int), .slice ab2 (bodyUp (bF g i) g.length).length cb2] rfl rfl (World.news_of_block (cs := #[.int .i64 (i : Int), .slice ab2 (bodyUp (bF g i) g.length).length cb2]) (new_at (by simp))) (by simp [Value.oneCell']) (by decide) (by unfold maxLen; omega) (by omega) (by have := HBV.out.size; have := HK.out.2.size; simp; omega) (wr.heap.size + 1) (by simp) ?_; intro gq capq w6 hown6 hgrow6 hat6 hlt6; have HO6 := Lib.hid (And.intro hown6 hgrow6); clear hown6 hgrow6))
                have hbs := HBV.out.size
                have hbs0 := HK.out.2.size
                have hown := HL2.out.alloc (.cells #[.int .i64 (i : Int), .slice ab2 (bodyUp (bF g i) g.length).length cb2] 44)
                have hpush := OutMem.push (body := bodyUp (bF g i) g.length) (i := i) HL13.out.1 hown (fun k c bv hk hb => (HL13.out.2 k c bv hk hb).alloc _) HO6.out.2 (ownsRow_mono (HBD.out.ho.alloc _) (by have := HBW.out.size; omega)) HO6.out.1
                have hbel : Below w3.heap.size w3 w6 := ((HK.out.2.trans (HBV.out.mono hbs0)).alloc (by omega) _).grown HO6.out.2 (by simp; omega) (fun k e => by have := (hown.lt k e).1; omega)
                have HPB := Lib.hid (And.intro hpush hbel)
                clear hpush hbel hown
                go_roundw
                case rel =>
                  refine ⟨i + 1, HLT.out, by go_num, ?_, HPB.out.2⟩
                  rw [loopsTo_succ, ← HBK.out, ← bodyUp_bF]
                  exact HPB.out.1
                case measure => have := HLT.out; simp [intOf]; omega
    · obtain rfl : i = g.length := by omega
      have hltI : ¬ (g.length : Int) < g.length := by omega
      obtain ⟨oa, oc, hof⟩ := ownsRow_form HK.out.1.choose_spec.2.1
      subst hof
      go_wp2
      go_ret
      exact ⟨_, rfl, HK.out.1.mono (by have := hw3.out.size; omega), hw3.out.trans (HK.out.2.mono hw3.out.size)⟩
end Go.Proofs.Ytpfinkcnklkclaa
