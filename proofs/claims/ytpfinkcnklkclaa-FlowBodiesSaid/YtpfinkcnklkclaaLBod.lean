/-
  The walk of the law FlowBodies.
-/
import Derived.Test.YtpfinkcnklkclaaBod0
import Derived.Test.YtpfinkcnklkclaaLPath0
set_option linter.unusedVariables false
set_option linter.unusedSimpArgs false
namespace Go.Proofs.Ytpfinkcnklkclaa
open Go.RowKit

theorem ans_fromN {w : World} {sv : Value} {g : List (List Nat)} (h : GraphIn w sv g) {fr : Nat} (hfr : fr < g.length) : Calls Try.prog 31 #[.agg #[sv], .int .i64 (fr : Int), .int .i64 (-1)] w (RetBools w (fromL g fr (-1))) := ans_from h fr hfr (-1)

set_option maxRecDepth 100000 in
set_option maxHeartbeats 6400000 in
theorem law_bodies (w : World) (sv : Value) (l : List (Int × Int)) (h : PairsOf w w.heap.size sv l) (hi : ∀ p ∈ l, I64 p.1 ∧ I64 p.2) (hl : l.length ≤ 9223372036854775807) :
    Calls Try.prog 8 #[sv] w fun e w' => e = .returned (.bool true) ∧ Below w.heap.size w w' := by
  obtain ⟨sa, sc, hsv⟩ : ∃ a c, sv = .slice a l.length c := let ⟨a, c, e, _⟩ := h; ⟨a, c, e⟩
  have hgv := madeL_valid (l.take 60)
  have hgn := madeL_len (l.take 60)
  obtain ⟨g, hge⟩ : ∃ g, g = madeL (l.take 60) := ⟨_, rfl⟩
  rw [← hge] at hgv hgn
  have hmd : ∀ W, Below w.heap.size w W → Calls Try.prog 30 #[sv] W (RetGraph W g) := fun W hb => by
    rw [hge]; exact law_made W sv l ((h.below hb).mono hb.size) hi hl
  have HMD := Lib.hid hmd
  have HGV := Lib.hid hgv
  have hdl : (domRows g).length = g.length := by simp [domRows]
  have hll := loopsL_length g
  obtain ⟨m, hm⟩ : ∃ m, (headsL g).length = m := ⟨_, rfl⟩
  have hmn : m ≤ g.length := by have := headsL_len g; omega
  have hll2 : (loopsL g).length = m := by omega
  have HM := Lib.hid hm
  have hmk := run_make_row' (P := Try.prog) 22 29 (.slice none 0 0) 24 Try.underlying22 Try.info_ints rfl .i64 .i64 g.length (by omega) (by omega)
  have hmk2 := run_make_row' (P := Try.prog) 36 4 (.bool false) 1 Try.underlying36 Try.info_bool rfl .i64 .i64 g.length (by omega) (by omega)
  clear hmd h hi hge hgv hm hll
  subst hsv
  go_enter Try.func8, Try.ntmps8
  go_wp2_with (first
    | (go_at_call 16; go_must (refine (sanity_any _).mono ?_; rintro e w1 ⟨rfl, hb1⟩))
    | (go_at_call 30; go_must (refine (HMD.out _ hb1).mono ?_; rintro e w2 ⟨bp, rfl, hbp, hor, hgw, hb2⟩; have HRL := Lib.hid hgw.2.2; have hv2 := Var.mk' (graph_own hor hgw) (Below.refl _ _); have cv2 := hv2.cell; have hb02 : Below w.heap.size w _ := (hb1.trans (hb2.mono hb1.size)).alloc (by have := hb1.size; have := hb2.size; omega) (.cells #[.slice (some ⟨bp, 0, none⟩) g.length g.length] 24)))
    | (go_at_call 32; go_must (refine (doms_any hv2.2).mono ?_; rintro e w3 ⟨dv, rfl, hd, hb3⟩; obtain ⟨da, dc, rfl, _⟩ := hd.form; rw [hdl]; have hv3 := hv2.below hb3; have cv3 := hv3.cell; have hb03 := hb02.trans (hb3.mono hb02.size); clear hb02 hb2 hb3 cv2 hv2 hor hgw))
    | (go_at_call 26; go_must (refine (ans_loops hv3.2).mono ?_; rintro e w4 ⟨lv, rfl, ho, hb4⟩; have hcy := ho.cyc (Nat.le_refl _); obtain ⟨la, lc, rfl⟩ : ∃ a c, lv = .slice a (loopsL g).length c := (let ⟨a, c, e, _⟩ := hcy; ⟨a, c, e⟩); rw [hll2]; have HCY := Lib.hid hcy; have HV4 := Lib.hid (hv3.below hb4); have HB04 := Lib.hid (hb03.trans (hb4.mono hb03.size)); have HD4 := Lib.hid ((hd.below hb4).mono hb4.size); clear hb03 hb4 hd cv3 hv3 ho hcy)))
  generalize hbx : w2.heap.size = bx at *
  clear hbx hbp
  rw [hll2] at HCY
  have cv4 := HV4.out.cell
  have hbx4 : bx < w4.heap.size := lt_of_block HV4.out.1
  clear hll2 hb1
  generalize w4 = V at *
  go_loopw [7, 34] (fun ov iv wr => ∃ i : Nat, i ≤ m ∧ iv = .int .i64 (i : Int) ∧ Hid (EdRows wr V.heap.size g.length ov (bodyRows g i) ∧ Below V.heap.size V wr)) (fun _ iv _ => m - (intOf iv).toNat)
  case atStart => exact ⟨0, Nat.zero_le _, rfl, by rw [show bodyRows g 0 = [] from rfl]; exact EdRows.nil _ _ _, Below.refl _ _⟩
  case round =>
    obtain ⟨i, hi, rfl, HK⟩ := hrel
    have hbl := bodyRows_len (g := g) (i := i) (by rw [HM.out]; exact hi)
    obtain ⟨xs0, hxs0⟩ := HK.out.1.own
    obtain ⟨ao, co, rfl⟩ := ownsRow_form hxs0
    rw [hbl]
    clear hxs0
    by_cases hlti : i < m
    · have hltiI : (i : Int) < m := by omega
      have HLTI := Lib.hid hlti
      obtain ⟨hd, hhd⟩ : ∃ hd, (headsL g)[i]? = some hd := ⟨_, List.getElem?_eq_getElem (by rw [HM.out]; exact hlti)⟩
      have hhm := List.mem_of_getElem? hhd
      have hdn : hd < g.length := (headsL_mem.1 hhm).1
      obtain ⟨bl, ol, ba, bc, rfl, hblV, hl1, hl2, hbody⟩ := cyc_read HCY.out hhd
      have cl1 := (HK.out.2.cell (p := ⟨bl, ol + i * 2, none⟩) hblV).trans hl1
      have cl2 := (HK.out.2.cell (p := ⟨bl, ol + i * 2 + 1, none⟩) hblV).trans hl2
      have cgr := (HK.out.2.cell (p := ⟨bx, 0, none⟩) hbx4).trans cv4
      have HHD := Lib.hid (And.intro hhd hhm)
      have HBODY := Lib.hid hbody
      have HHDN := Lib.hid hdn
      have hdnI : (hd : Int) < g.length := by omega
      have hdI0 : ¬ (hd : Int) < 0 := by omega
      have hpos : 0 < (bodyL g hd).length := List.length_pos_of_mem (head_self hhm)
      have hblen := bodyL_len g hd
      have hszV := HK.out.2.size
      clear hhd hhm hdn hbody hlti hbl
      generalize hW : wr = W at *
      clear hW
      go_upto_region 9 with fail
      have hW1s : (W.alloc (.cells #[.int .i64 (hd : Int), .slice ba (bodyL g hd).length bc] 44)).heap.size = W.heap.size + 1 := by simp
      have hW1b : Below W.heap.size W (W.alloc (.cells #[.int .i64 (hd : Int), .slice ba (bodyL g hd).length bc] 44)) := (Below.refl _ _).alloc (Nat.le_refl _) _
      have hc1 : (W.alloc (.cells #[.int .i64 (hd : Int), .slice ba (bodyL g hd).length bc] 44)).cell? ⟨W.heap.size, 0, none⟩ = some (.int .i64 (hd : Int)) := cell_of_blk (new_at rfl) (by simp)
      have hc2 : (W.alloc (.cells #[.int .i64 (hd : Int), .slice ba (bodyL g hd).length bc] 44)).cell? ⟨W.heap.size, 1, none⟩ = some (.slice ba (bodyL g hd).length bc) := cell_of_blk (new_at rfl) (by simp)
      have hgW := (HK.out.2.cell (p := ⟨bx, 0, none⟩) hbx4).trans cv4
      have cg1 := (hW1b.cell (p := ⟨bx, 0, none⟩) (by show bx < W.heap.size; omega)).trans hgW
      generalize hW1 : W.alloc (.cells #[.int .i64 (hd : Int), .slice ba (bodyL g hd).length bc] 44) = W1 at *
      have HW1 := Lib.hid (And.intro hW1s hW1b)
      have hszW1 : W.heap.size < W1.heap.size := by omega
      have hbxW1 : bx < W1.heap.size := by omega
      clear hW1 hW1s hW1b cl1 cl2 cgr hgW cv4
      generalize hble : (bodyL g hd).length = bn at *
      have HBN := Lib.hid hble
      clear hble
      go_wp2
      go_loopw [46] (fun kv wx => ∃ k : Nat, k ≤ bn ∧ kv = .int .i64 (k : Int) ∧ Hid (wx.heap[W1.heap.size]? = some (.cells ((marks g.length ((bodyL g hd).take k)).map encBool).toArray 4 (0, 0)) ∧ Below W1.heap.size W1 wx)) (fun kv _ => bn - (intOf kv).toNat)
      case atStart =>
        refine ⟨0, Nat.zero_le _, rfl, ?_, (Below.refl _ _).alloc (Nat.le_refl _) _⟩
        rw [new_at rfl, toArray_madeCells]; simp [marks, encBool]
      case round =>
        obtain ⟨k, hk, rfl, HX⟩ := hrel
        have cgx := (HX.out.2.cell (p := ⟨bx, 0, none⟩) hbxW1).trans cg1
        have hx1 := (HX.out.2.cell (p := ⟨W.heap.size, 0, none⟩) hszW1).trans hc1
        have hx2 := (HX.out.2.cell (p := ⟨W.heap.size, 1, none⟩) hszW1).trans hc2
        by_cases hltk : k < bn
        · have hltkI : (k : Int) < bn := by omega
          have HLTK := Lib.hid hltk
          obtain ⟨x, hxk⟩ : ∃ x, (bodyL g hd)[k]? = some x := ⟨_, List.getElem?_eq_getElem (by rw [HBN.out]; exact hltk)⟩
          obtain ⟨b2, o2, rfl, hb2, hcx⟩ := HBODY.out k x hxk
          have hbV : Below V.heap.size V wr := (HK.out.2.trans (HW1.out.2.mono hszV)).trans (HX.out.2.mono (by omega))
          have cx := (hbV.cell (p := ⟨b2, o2 + k, none⟩) hb2).trans hcx
          have hxm := bodyL_mem.1 (List.mem_of_getElem? hxk)
          have hxI : (x : Int) < g.length := by have := hxm.1; omega
          have hx0 : ¬ (x : Int) < 0 := by omega
          obtain ⟨bd, od, a3, cap3, rfl, cd1, hdx⟩ := dom_cell (HD4.out.below (hbV.mono (Nat.le_refl _))) HHDN.out
          obtain ⟨b4, o4, rfl, cd2⟩ := hdx x hxm.1
          have hdom : domsB g hd x = true := body_dom HGV.out (headsL_mem.1 HHD.out.2).2 hxm.1 hxm.2
          rw [hdom] at cd2
          obtain ⟨t0, ht0⟩ : ∃ t0, (marks g.length ((bodyL g hd).take k))[x]? = some t0 := ⟨_, List.getElem?_eq_getElem (by rw [marks_len]; exact hxm.1)⟩
          have cs0 : wr.cell? ⟨W1.heap.size, x, none⟩ = some (.bool t0) := cell_of_blk HX.out.1 (by simp [ht0, encBool])
          have fs0 : wr.frozen? ⟨W1.heap.size, x, none⟩ = false := free_of_blk HX.out.1
          have hset : Hid ((wr.setCell ⟨W1.heap.size, x, none⟩ (.bool true)).heap[W1.heap.size]? = some (.cells ((marks g.length ((bodyL g hd).take (k + 1))).map encBool).toArray 4 (0, 0)) ∧ Below W1.heap.size W1 (wr.setCell ⟨W1.heap.size, x, none⟩ (.bool true))) := by
            refine ⟨?_, HX.out.2.setCell (Nat.le_refl _) _⟩
            rw [heap_setCell_self HX.out.1, List.take_add_one, hxk]
            show _ = some (Obj.cells ((marks g.length ((bodyL g hd).take k ++ [x])).map encBool).toArray 4 (0, 0))
            rw [marks_snoc]
            simp [encBool, List.map_set]
          clear hdx ht0 hxm hdom hcx hb2
          as_aux_lemma =>
          rcases k with _ | k'
          · clear hxk hltk
            rw [Nat.add_zero] at cx
            go_wp2
            go_roundw
            case rel => exact ⟨1, HLTK.out, by go_num, hset⟩
            case measure => have := HLTK.out; simp [intOf]; omega
          · obtain ⟨y, hyk⟩ : ∃ y, (bodyL g hd)[k']? = some y := ⟨_, List.getElem?_eq_getElem (by rw [HBN.out]; omega)⟩
            obtain ⟨b5, o5, e5, hb5, hcy'⟩ := HBODY.out k' y hyk
            cases e5
            have cy := (hbV.cell (p := ⟨b2, o2 + k', none⟩) hb5).trans hcy'
            have hyx := bodyL_lt hyk hxk (Nat.lt_succ_self _)
            have hyxI : (y : Int) < x := by omega
            clear hxk hyk hltk hcy' hb5 hyx
            go_wp2
            go_roundw
            case rel => exact ⟨k' + 1 + 1, HLTK.out, by go_num, hset⟩
            case measure => have := HLTK.out; simp [intOf]; omega
        · obtain rfl : k = bn := by omega
          have hltkI : ¬ (k : Int) < k := by omega
          have hrw := HX.out.1
          rw [List.take_of_length_le (by rw [HBN.out]; omega)] at hrw
          have HRW := Lib.hid hrw
          have HBX := Lib.hid HX.out.2
          have hszX := HX.out.2.size
          have crh : wr.cell? ⟨W1.heap.size, hd, none⟩ = some (.bool true) := cell_of_blk hrw (by simp [marks_get _ _ _ HHDN.out, head_self HHD.out.2, encBool])
          have hbx2 : bx < wr.heap.size := by omega
          have hw2 : W.heap.size < wr.heap.size := by omega
          clear hrw HX
          generalize wr = W2 at *
          go_upto_region 17 with fail
          go_cut [126] (fun b wx => b = .bool false ∧ ∃ nq, wx = W2.drewN nq)
          case first =>
            as_aux_lemma =>
            have ht1 : ((k : Int) == 0) = false := by rw [beq_eq_false_iff_ne]; omega
            by_cases hi0 : i = 0
            · skip
              have ht0 : decide (0 < i) = false := by rw [decide_eq_false_iff_not]; omega
              clear hi0
              go_quiet (fail)
              go_wp2
              go_meet
              exact ⟨rfl, _, rfl⟩
            · skip
              obtain ⟨i', rfl⟩ : ∃ i', i = i' + 1 := ⟨i - 1, by omega⟩
              obtain ⟨hp, hhp⟩ : ∃ hp, (headsL g)[i']? = some hp := ⟨_, List.getElem?_eq_getElem (by rw [HM.out]; omega)⟩
              obtain ⟨bl', ol', ba', bc', e5, hblV', hl1', hl2', _⟩ := cyc_read HCY.out hhp
              cases e5
              have hbV : Below V.heap.size V W2 := (HK.out.2.trans (HW1.out.2.mono hszV)).trans (HBX.out.mono (by omega))
              have cp := (hbV.cell (p := ⟨bl, ol + i' * 2, none⟩) hblV).trans hl1'
              have hlt := headsL_lt hhp HHD.out.1 (Nat.lt_succ_self _)
              have hltI : (hp : Int) < hd := by omega
              have ht0 : decide (0 < i' + 1) = true := by simp
              have hdec : decide (hd ≤ hp) = false := by rw [decide_eq_false_iff_not]; omega
              have hwr : IntKind.i64.wrap (((i' + 1 : Nat) : Int) - 1) = (i' : Int) := by rw [show (((i' + 1 : Nat) : Int) - 1) = (i' : Int) by omega]; exact IntWalk.i64_in _ (by omega)
              have hi'm : (i' : Int) < m := by omega
              clear hhp hl1' hl2' hlt hi0
              go_quiet (fail)
              go_wp2
              go_meet
              exact ⟨rfl, _, rfl⟩
          case rest =>
            obtain ⟨rfl, nq, rfl⟩ := hcut
            generalize hY : W2.drewN nq = Y at *
            have hYs : Y.heap.size = W2.heap.size := by rw [← hY]; rfl
            have hbW2 : Below W2.heap.size W2 Y := by rw [← hY]; exact below_drewN0 _ _ _
            have hrY : Y.heap[W1.heap.size]? = some (.cells ((marks g.length (bodyL g hd)).map encBool).toArray 4 (0, 0)) := by rw [← hY]; exact HRW.out
            have hVY : Below V.heap.size V Y := ((HK.out.2.trans (HW1.out.2.mono hszV)).trans (HBX.out.mono (by omega))).trans (hbW2.mono (by omega))
            have hvY := HV4.out.below (hVY.mono (by omega))
            have cgy := hvY.cell
            have hcy1 := (hbW2.cell (p := ⟨W.heap.size, 0, none⟩) hw2).trans hx1
            have hcy2 := (hbW2.cell (p := ⟨W.heap.size, 1, none⟩) hw2).trans hx2
            have hbxY : bx < Y.heap.size := by omega
            have hWY : W.heap.size < Y.heap.size := by omega
            have HVY := Lib.hid (And.intro hVY hvY)
            have HRY := Lib.hid hrY
            have hrwY : W1.heap.size < Y.heap.size := lt_of_block hrY
            have HYS := Lib.hid hYs
            have HY2 := Lib.hid hbW2
            clear hY hYs hbW2 hrY hVY hvY hx1 hx2 cgx HRW crh
            go_upto_region 20 with fail
            have HM0 := Lib.hid (GMem.start' Y Y.heap.size rfl g.length 2000000)
            go_wp2
            go_loopw [135] (fun uv wr => ∃ u : Nat, u ≤ g.length ∧ uv = .int .i64 (u : Int) ∧ Hid (GMem Y wr Y.heap.size (Y.heap.size + 1) g.length 2000000 (partG g.length id (inRow g (bB g hd)) (fun y => (succ g y).length) u 0))) (fun uv _ => g.length - (intOf uv).toNat)
            case atStart => exact ⟨0, Nat.zero_le _, rfl, by rw [partG_start (inRow_zero g _)]; exact HM0⟩
            case round =>
              obtain ⟨u, hu, rfl, HU⟩ := hrel
              have cgr := (HU.out.hb.cell (p := ⟨bx, 0, none⟩) hbxY).trans cgy
              by_cases hltu : u < g.length
              · skip
                as_aux_lemma =>
                have hltuI : (u : Int) < g.length := by omega
                have HLTU := Lib.hid hltu
                obtain ⟨row, hrow⟩ : ∃ row, g[u]? = some row := ⟨_, List.getElem?_eq_getElem hltu⟩
                have hsucc : succ g u = row := by unfold succ; rw [List.getD_eq_getElem?_getD, hrow]; rfl
                have hrl := HRL.out row (List.mem_of_getElem? hrow)
                obtain ⟨bg, og, a2, cap2, e1, hbg, hc1', hcap2, hxr⟩ := HVY.out.2.2.rows.row hrow
                cases e1
                rw [Nat.zero_add] at hc1'
                have hcr := (HU.out.hb.cell (p := ⟨bp, u, none⟩) hbg).trans hc1'
                have HROW := Lib.hid (And.intro hrow hsucc)
                have HXR := Lib.hid hxr
                obtain ⟨pu, hpu⟩ : ∃ pu, bB g hd u = pu := ⟨_, rfl⟩
                have cru : Y.cell? ⟨W1.heap.size, u, none⟩ = some (.bool pu) := cell_of_blk HRY.out (by rw [← hpu]; simp [marks_get _ _ _ hltu, bB, encBool])
                have HPU := Lib.hid hpu
                clear hrow hsucc hltu hc1' hbg hxr hpu
                go_wp2
                go_loopw [144] (fun kv wx => ∃ k : Nat, k ≤ row.length ∧ kv = .int .i64 (k : Int) ∧ Hid (GMem Y wx Y.heap.size (Y.heap.size + 1) g.length 2000000 (partG g.length id (inRow g (bB g hd)) (fun y => (succ g y).length) u k))) (fun kv _ => row.length - (intOf kv).toNat)
                case atStart => exact ⟨0, Nat.zero_le _, rfl, HU⟩
                case round =>
                  obtain ⟨k2, hk2, rfl, HK2⟩ := hrel
                  have cruX := (HK2.out.hb.cell (p := ⟨W1.heap.size, u, none⟩) hrwY).trans cru
                  by_cases hltk : k2 < row.length
                  · have hltkI : (k2 : Int) < row.length := by omega
                    have HLTK := Lib.hid hltk
                    obtain ⟨s, hsk⟩ : ∃ s, row[k2]? = some s := ⟨_, List.getElem?_eq_getElem hltk⟩
                    obtain ⟨b2, o2, rfl, hb2, cs1⟩ := HXR.out k2 s hsk
                    have cs2 := (HK2.out.hb.cell (p := ⟨b2, o2 + k2, none⟩) hb2).trans cs1
                    simp only [encNat] at cs2
                    have hsg : s < g.length := HGV.out.2 row (List.mem_of_getElem? HROW.out.1) s (List.mem_of_getElem? hsk)
                    have hsgI : (s : Int) < g.length := by omega
                    have hus := inRow_succ (g := g) (p := bB g hd) (y := u) (by rw [HROW.out.2]; exact hsk)
                    rw [HPU.out] at hus
                    obtain ⟨ps, hps⟩ : ∃ ps, bB g hd s = ps := ⟨_, rfl⟩
                    have crs : wr.cell? ⟨W1.heap.size, s, none⟩ = some (.bool ps) := (HK2.out.hb.cell (p := ⟨W1.heap.size, s, none⟩) hrwY).trans (cell_of_blk HRY.out (by rw [← hps]; simp [marks_get _ _ _ hsg, bB, encBool]))
                    rw [hps] at hus
                    have HUS := Lib.hid hus
                    have hul := inRow_len g (bB g hd) u k2
                    clear hsk hus hltk cs1 hb2 hps hsg
                    cases pu with
                    | false =>
                      go_wp2
                      go_roundw
                      case rel => exact ⟨k2 + 1, HLTK.out, by go_num, by rw [partG_same (by rw [HUS.out]; rfl)]; exact HK2⟩
                      case measure => have := HLTK.out; simp [intOf]; omega
                    | true =>
                      cases ps with
                      | false =>
                        go_wp2
                        go_roundw
                        case rel => exact ⟨k2 + 1, HLTK.out, by go_num, by rw [partG_same (by rw [HUS.out]; rfl)]; exact HK2⟩
                        case measure => have := HLTK.out; simp [intOf]; omega
                      | true =>
                        have hR := partG_at (fr := id) (row := inRow g (bB g hd)) (len := fun y => (succ g y).length) (u := u) (k := k2) HLTU.out rfl
                        have hpt : (partG g.length id (inRow g (bB g hd)) (fun y => (succ g y).length) u k2).set u (inRow g (bB g hd) u k2 ++ [s]) = partG g.length id (inRow g (bB g hd)) (fun y => (succ g y).length) u (k2 + 1) := by
                          rw [← partG_set (fr := id) (u := u) (k := k2) HLTU.out rfl (fun y _ hy => hy) (k2 + 1), HUS.out]; rfl
                        have HPS := Lib.hid hpt
                        clear hpt
                        generalize hRe : inRow g (bB g hd) u k2 = ur at *
                        have HRE := Lib.hid hRe
                        obtain ⟨ap, capp, cpx, hop, fp⟩ := HK2.out.hr.get hR
                        have lbg := lt_of_block HK2.out.hg
                        have lbp := HK2.out.hr.bplt
                        obtain ⟨cc, hcc⟩ := HK2.out.hr.blk
                        have nbg := ownsRow_block_ne hop HK2.out.hg (.inr (by decide))
                        have nbp := ownsRow_block_ne hop hcc (.inr (by decide))
                        have chr : wr.cell? ⟨Y.heap.size + 1, 0, none⟩ = some (.slice (some ⟨Y.heap.size, 0, none⟩) g.length g.length) := cell_of_blk HK2.out.hg (by simp)
                        have HR := Lib.hid (And.intro hR hop)
                        have hszY := HK2.out.hb.size
                        clear hcc hR hop hRe
                        have fp' : ∀ o, (wr.alloc o).frozen? ⟨Y.heap.size, u, none⟩ = false := fun o => (World.frozen?_of_block (w := wr) (Below.heap_alloc _ _ _ lbp)).trans fp
                        have cp' : ∀ o, (wr.alloc o).cell? ⟨Y.heap.size, u, none⟩ = some (.slice ap ur.length capp) := fun o => (World.cell?_of_block (w := wr) (Below.heap_alloc _ _ _ lbp)).trans cpx
                        have chr' : ∀ o, (wr.alloc o).cell? ⟨Y.heap.size + 1, 0, none⟩ = some (.slice (some ⟨Y.heap.size, 0, none⟩) g.length g.length) := fun o => (World.cell?_of_block (w := wr) (Below.heap_alloc _ _ _ lbg)).trans chr
                        obtain ⟨ii, hii, hzi0, hzi1, hzi2⟩ := info_parts Try.info_int
                        go_upto_region 27 with fail
                        go_region_law (first | (refine step_append_lies _ (by rfl) (.tmp 165) (.tmp 167) _ (by rfl) Y.heap.size 3 ii (.int .i64 0) 1 8 Try.underlying29 hii hzi0 hzi1 hzi2 rfl (by omega) (.slice ap ur.length capp) ur.length (ur.map encNat) (by rfl) ((HR.out.2.alloc _).drew) ⟨wr.heap.size, 0, none⟩ 1 1 [.int .i64 (s : Int)] (by rfl) (by rfl) (World.news_of_block (cs := #[.int .i64 (s : Int)]) (t := 3) (fr := (0, 0)) (heap_alloc_new wr _)) (by simp [Value.oneCell']) (by omega) (by unfold maxLen; omega) (by omega) (by simp; omega) (wr.heap.size + 1) (by simp) ?_; intro gg cap3 w3 hown3 hgrow hat hlt4; have c23 := (hgrow.cell_far ⟨Y.heap.size + 1, 0, none⟩ (by simp; omega) (Ne.symm nbg)).trans (chr' _); have cp3 := (hgrow.cell_far ⟨Y.heap.size, u, none⟩ (by simp; omega) (Ne.symm nbp)).trans (cp' _); have fp3 := (hgrow.frozen_far ⟨Y.heap.size, u, none⟩ (by simp; omega) (Ne.symm nbp)).trans (fp' _)))
                        all_goals go_wp2_with fail
                        all_goals go_roundw
                        all_goals first
                          | (have := HLTK.out; simp [intOf]; omega)
                          | (refine ⟨k2 + 1, HLTK.out, by go_num, ?_⟩
                             have hput := HK2.out.put (row' := ur ++ [s]) HR.out.1 cpx (grownBy_of_drew hgrow) (by simpa [encNat] using hown3) hat (by omega) (by simp; omega)
                             rw [HPS.out] at hput
                             simpa using Lib.hid hput)
                  · obtain rfl : k2 = row.length := by omega
                    have hltkI : ¬ (row.length : Int) < row.length := by omega
                    go_wp2
                    go_roundw
                    case rel =>
                      refine ⟨u + 1, HLTU.out, by go_num, ?_⟩
                      have := partG_next (n := g.length) (fr := id) (len := fun y => (succ g y).length) (u := u) (inRow_zero g (bB g hd))
                      rw [← this]
                      show Hid (GMem Y wr Y.heap.size (Y.heap.size + 1) g.length 2000000 (partG g.length id (inRow g (bB g hd)) (fun y => (succ g y).length) u (succ g u).length))
                      rw [HROW.out.2]; exact HK2
                    case measure => have := HLTU.out; simp [intOf]; omega
              · skip
                as_aux_lemma =>
                obtain rfl : u = g.length := by omega
                have hltuI : ¬ (g.length : Int) < g.length := by omega
                have hG := HU.out
                rw [partG_full (fr := id) (fun y hy => hy)] at hG
                have hfull : ((List.range g.length).map fun y => inRow g (bB g hd) (id y) ((fun y => (succ g y).length) (id y))) = innerG g (bB g hd) := inRow_full g _
                rw [hfull] at hG
                have hvar := hG.graph (innerG_valid HGV.out _) (by omega) (Nat.le_refl _)
                have hin : ∀ x ∈ bodyL g hd, fromB (innerG g (bB g hd)) x (-1) hd = true := fun x hx => inner_reach HGV.out HHD.out.2 hx
                have HIN := Lib.hid (And.intro (innerG_valid HGV.out (bB g hd)) (And.intro (innerG_len g (bB g hd)) hin))
                have HYB := Lib.hid hG.hb
                have hcz1 := (hG.hb.cell (p := ⟨W.heap.size, 0, none⟩) hWY).trans hcy1
                have hcz2 := (hG.hb.cell (p := ⟨W.heap.size, 1, none⟩) hWY).trans hcy2
                have hszY := hG.hb.size
                have hYr : Y.heap.size + 1 < wr.heap.size := lt_of_block hvar.1
                have HVR := Lib.hid hvar
                clear hG hfull hvar hin HU cgr hcy1 hcy2
                generalize innerG g (bB g hd) = ig at *
                generalize hZ : wr = Z at *
                clear hZ
                go_wp2
                go_loopw [175] (fun kv wx => ∃ k2 : Nat, k2 ≤ k ∧ kv = .int .i64 (k2 : Int) ∧ Hid (Below Z.heap.size Z wx)) (fun kv _ => k - (intOf kv).toNat)
                case atStart => exact ⟨0, Nat.zero_le _, rfl, Below.refl _ _⟩
                case round =>
                  obtain ⟨k2, hk2, rfl, HZ⟩ := hrel
                  by_cases hltk : k2 < k
                  · skip
                    as_aux_lemma =>
                    have hltkI : (k2 : Int) < k := by omega
                    have HLTK := Lib.hid hltk
                    obtain ⟨x, hxk⟩ : ∃ x, (bodyL g hd)[k2]? = some x := ⟨_, List.getElem?_eq_getElem (by rw [HBN.out]; exact hltk)⟩
                    obtain ⟨b2, o2, rfl, hb2, hcx⟩ := HBODY.out k2 x hxk
                    have hbV : Below V.heap.size V wr := (HVY.out.1.trans (HYB.out.mono (by omega))).trans (HZ.out.mono (by omega))
                    have cx := (hbV.cell (p := ⟨b2, o2 + k2, none⟩) hb2).trans hcx
                    have hxm := List.mem_of_getElem? hxk
                    have hxn : x < ig.length := by rw [HIN.out.2.1]; exact (bodyL_mem.1 hxm).1
                    have hfb := HIN.out.2.2 x hxm
                    have HXX := Lib.hid (And.intro hxn hfb)
                    have hv0 := HVR.out.below HZ.out
                    have cv0 := hv0.cell
                    have ch0 := (HZ.out.cell (p := ⟨W.heap.size, 0, none⟩) (by show W.heap.size < Z.heap.size; omega)).trans hcz1
                    have hil : ig.length = g.length := HIN.out.2.1
                    have hdgI : (hd : Int) < ig.length := by omega
                    have hWr : W.heap.size < wr.heap.size := by have := HZ.out.size; omega
                    clear hxk hltk hb2 hcx hxm hxn hfb hbV hcz1
                    go_upto_region 33 with fail
                    generalize wr = Z2 at *
                    have hv00 := var_drew hv0
                    have hb0 := Below.refl Z2.heap.size Z2
                    refine wp_region_noPanic ?_
                    refine wp_region_held_drew (S := fun w' => w'.cell? ⟨Y.heap.size + 1, 0, none⟩ = some (.slice (some ⟨Y.heap.size, 0, none⟩) g.length g.length) ∧ w'.cell? ⟨W.heap.size, 0, none⟩ = some (.int .i64 (hd : Int))) (by kernel_rfl) ⟨by rw [← hil]; rw [hil]; exact cv0, ch0⟩ (fun hHeld => ?_)
                    refine wpAnyH_take (i := 0) (oi := _) (v := ?_) rfl (by kernel_rfl) (by kernel_rfl) (by kernel_rfl) (fun _ _ _ h => h) (Or.inl ⟨by rfl, ?_⟩) (by assumption) ?_
                    rotate_left
                    · (intro w hSw; (try dsimp only at hSw); go_simp; try with_reducible rfl)
                    (try simp only [Act.put, List.setIfInBounds_toArray, List.set_cons_zero, List.set_cons_succ])
                    refine wpAnyH_take (i := 1) (oi := _) (v := ?_) rfl (by kernel_rfl) (by kernel_rfl) (by kernel_rfl) (fun _ _ _ h => h) (Or.inl ⟨by rfl, ?_⟩) (by assumption) ?_
                    rotate_left
                    · (intro w hSw; (try dsimp only at hSw); go_simp; try with_reducible rfl)
                    (try simp only [Act.put, List.setIfInBounds_toArray, List.set_cons_zero, List.set_cons_succ])
                    refine wpAnyH_take (i := 3) (oi := _) (v := ?_) rfl (by kernel_rfl) (by kernel_rfl) (by kernel_rfl) (fun _ _ _ h => h) (Or.inl ⟨by rfl, ?_⟩) (by assumption) ?_
                    rotate_left
                    · (intro w hSw; (try dsimp only at hSw); go_simp; try with_reducible rfl)
                    (try simp only [Act.put, List.setIfInBounds_toArray, List.set_cons_zero, List.set_cons_succ])
                    refine wpAnyH_take (i := 4) (oi := _) (v := ?_) rfl (by kernel_rfl) (by kernel_rfl) (by kernel_rfl) (fun _ _ _ h => h) (Or.inl ⟨by rfl, ?_⟩) (by assumption) ?_
                    rotate_left
                    · (intro w hSw; (try dsimp only at hSw); go_simp; try with_reducible rfl)
                    (try simp only [Act.put, List.setIfInBounds_toArray, List.set_cons_zero, List.set_cons_succ])
                    refine wpAnyH_ready (rs := [2]) (by kernel_rfl) (by simp) ?_
                    refine AllReadyH.cons (o := _) rfl (fun K hK => ?_) ?_
                    · skip
                      go_simp
                      refine (ans_fromN (Var.gr (b := Y.heap.size + 1) (sv := .slice (some ⟨Y.heap.size, 0, none⟩) g.length g.length) (g := ig) (by assumption)) HXX.out.1).mono ?_
                      rintro e wF ⟨ab, rfl, hab, hA, hbF⟩
                      have hbZF : Below Z2.heap.size Z2 wF := (below_drew1 hb0).trans hbF
                      have hvF := hv0.below hbZF
                      have chF := (hbZF.cell (p := ⟨W.heap.size, 0, none⟩) hWr).trans ch0
                      rw [fromL_len HIN.out.1 HXX.out.1, HIN.out.2.1]
                      have cF : wF.cell? ⟨ab, hd, none⟩ = some (.bool true) := cell_of_blk hA (by have := fromB_get HIN.out.1 HXX.out.1 (-1) (x := hd) (by rw [HIN.out.2.1]; exact HHDN.out); rw [HXX.out.2] at this; simp [this, encBool])
                      have cvF := hvF.cell
                      go_wp2_with fail
                      refine hK.out _ _ ⟨cvF, chF⟩ (fun hHeld => ?_)
                      clear hK K
                      (try simp only [Act.put, List.setIfInBounds_toArray, List.set_cons_zero, List.set_cons_succ])
                      refine wpAnyH_take (i := 5) (oi := _) (v := ?_) rfl (by kernel_rfl) (by kernel_rfl) (by kernel_rfl) (fun _ _ _ h => h) (Or.inl ⟨by rfl, ?_⟩) (by assumption) ?_
                      rotate_left
                      · (intro w hSw; (try dsimp only at hSw); go_simp; try with_reducible rfl)
                      (try simp only [Act.put, List.setIfInBounds_toArray, List.set_cons_zero, List.set_cons_succ])
                      refine wpAnyH_ready (rs := [6]) (by kernel_rfl) (by simp) ?_
                      refine AllReadyH.cons (o := _) rfl (fun K hK => ?_) ?_
                      · skip
                        go_simp
                        refine hK.out _ _ ⟨cvF, chF⟩ (fun hHeld => ?_)
                        clear hK K
                        (try simp only [Act.put, List.setIfInBounds_toArray, List.set_cons_zero, List.set_cons_succ])
                        refine wpAnyH_take (i := 7) (oi := _) (v := ?_) rfl (by kernel_rfl) (by kernel_rfl) (by kernel_rfl) (fun _ _ _ h => h) (Or.inl ⟨by rfl, ?_⟩) (by assumption) ?_
                        rotate_left
                        · (intro w hSw; (try dsimp only at hSw); go_simp; try with_reducible rfl)
                        (try simp only [Act.put, List.setIfInBounds_toArray, List.set_cons_zero, List.set_cons_succ])
                        refine wpAnyH_done (by kernel_rfl) (NoPanic.normal ?_) _
                        go_wp2
                        go_roundw
                        case rel => exact ⟨k2 + 1, HLTK.out, by go_num, Lib.hid (HZ.out.trans (by simpa using hbZF.mono HZ.out.size))⟩
                        case measure => have := HLTK.out; simp [intOf]; omega
                      · exact AllReadyH.nil
                    · exact AllReadyH.nil
                  · skip
                    as_aux_lemma =>
                    obtain rfl : k2 = k := by omega
                    have hltkI : ¬ (k2 : Int) < k2 := by omega
                    obtain ⟨ii, hii, hzi0, hzi1, hzi2⟩ := info_parts Try.info_bools
                    obtain ⟨bs, h1, h2, h3, h4, h5⟩ := HK.out.1.ex
                    have hbl := bodyRows_len (g := g) (i := i) (by rw [HM.out]; exact hi)
                    rw [hbl] at h1 h4
                    have hbsl : bs.length ≤ 2000000 := by have := HLTI.out; omega
                    have hWr : Below W.heap.size W wr := (((HW1.out.2.trans (HBX.out.mono (by omega))).trans (HY2.out.mono (by omega))).trans (HYB.out.mono (by omega))).trans (HZ.out.mono (by omega))
                    have hnb : W1.heap.size ∉ bs := by
                      intro hc
                      obtain ⟨q, hq⟩ := List.getElem?_of_mem hc
                      have hql := (List.getElem?_eq_some_iff.1 hq).1
                      have := lt_of_block (h5 q _ (bodyRows g i)[q] hq (List.getElem?_eq_getElem (by rw [hbl]; omega)))
                      omega
                    have h4' := ownsRow_below h4 hWr (Nat.le_refl _)
                    have h5' : ∀ (q b : Nat) (r : List Bool), bs[q]? = some b → (bodyRows g i)[q]? = some r → wr.heap[b]? = some (.cells (r.map encBool).toArray 4 (0, 0)) := fun q b r hq hr => below_blk hWr (h5 q b r hq hr) (lt_of_block (h5 q b r hq hr))
                    have hrx : wr.heap[W1.heap.size]? = some (.cells ((marks g.length (bodyL g hd)).map encBool).toArray 4 (0, 0)) := below_blk HZ.out (below_blk HYB.out HRY.out hrwY) (by omega)
                    have HEX5 := Lib.hid (And.intro h1 (And.intro h2 (And.intro h3 (And.intro h4' (And.intro h5' (And.intro hnb hrx))))))
                    have hsx := lt_of_block hrx
                    have HWR := Lib.hid hWr
                    clear h1 h2 h3 h4 h5 h4' h5' hnb hrx hWr
                    go_wp2_with (at_builtin; go_must (refine wpList_append_lies _ rfl (.tmp 188) (.tmp 190) 41 rfl V.heap.size 36 ii (.slice none 0 0) 1 24 Try.underlying41 hii hzi0 hzi1 hzi2 rfl (by decide) _ i (bs.map fun b => Value.slice (some ⟨b, 0, none⟩) g.length g.length) rfl (HEX5.out.2.2.2.1.alloc _) ⟨wr.heap.size, 0, none⟩ 1 1 [.slice (some ⟨W1.heap.size, 0, none⟩) g.length g.length] rfl rfl (World.news_of_block (cs := #[.slice (some ⟨W1.heap.size, 0, none⟩) g.length g.length]) (new_at (by simp))) (by simp [Value.oneCell']) (by decide) (by unfold maxLen; omega) (by omega) (by simp; omega) (wr.heap.size + 1) (by simp) ?_; intro gq capq w6 hown6 hgrow6 hat6 hlt6; have HO6 := Lib.hid (And.intro hown6 hgrow6); clear hown6 hgrow6))
                    go_roundw
                    case rel =>
                      refine ⟨i + 1, HLTI.out, by go_num, ?_, ((HK.out.2.trans (HWR.out.mono hszV)).alloc (by omega) _).grown HO6.out.2 (by simp; omega) (fun q hq => (HEX5.out.2.2.2.1.lt q hq).1)⟩
                      rw [bodyRows_succ HHD.out.1]
                      refine EdRows.push (by rw [hbl]; exact HEX5.out.1) HEX5.out.2.1 HEX5.out.2.2.1 (by rw [hbl]; exact HEX5.out.2.2.2.1) HEX5.out.2.2.2.2.1 HEX5.out.2.2.2.2.2.1 (by omega) HEX5.out.2.2.2.2.2.2 _ HO6.out.2 ?_
                      rw [hbl]; exact HO6.out.1
                    case measure => have := HLTI.out; simp [intOf]; omega
    · skip
      as_aux_lemma =>
      obtain rfl : i = m := by omega
      have hltiI : ¬ (i : Int) < i := by omega
      have HE := Lib.hid HK.out.1
      have HV5 := Lib.hid (HV4.out.below HK.out.2)
      have HB5 := Lib.hid (HB04.out.trans (HK.out.2.mono HB04.out.size))
      have hgp : 0 < g.length := HGV.out.1
      have hbl2 : (bodyRows g i).length = i := bodyRows_len (by rw [HM.out]; exact Nat.le_refl _)
      have HBL := Lib.hid hbl2
      have cv5 := HV5.out.cell
      clear HK cv4 hbl hbl2
      generalize wr = V5 at *
      go_wp2
      go_loopw [195] (fun av wx => ∃ a : Nat, a ≤ i ∧ av = .int .i64 (a : Int) ∧ Hid (Below V5.heap.size V5 wx)) (fun av _ => i - (intOf av).toNat)
      case atStart => exact ⟨0, Nat.zero_le _, rfl, Below.refl _ _⟩
      case round =>
        obtain ⟨a, ha, rfl, HA⟩ := hrel
        have cva := (HV5.out.below HA.out).cell
        by_cases hlta : a < i
        · skip
          have hltaI : (a : Int) < i := by omega
          have HLTA := Lib.hid hlta
          obtain ⟨hda, hhda⟩ : ∃ hda, (headsL g)[a]? = some hda := ⟨_, List.getElem?_eq_getElem (by rw [HM.out]; exact hlta)⟩
          have hga := fun y (hy : y < g.length) => bodyRows_eget hhda hy
          rw [HM.out] at hga
          obtain ⟨e, ecap, b0, hov, hSe, hel, hce, _, _, _, _, _⟩ := (HE.out.below HA.out).cell (p := a) (s := 0) (by rw [HBL.out]; exact hlta) (by rw [(hga 0 hgp).1, marks_len]; exact hgp)
          rw [HBL.out] at hov
          cases hov
          have HHA := Lib.hid (And.intro hhda hga)
          have hia : a ≤ co := by
            obtain ⟨xs9, hx9⟩ := HE.out.own
            rw [HBL.out] at hx9
            have := (ownsRow_le hx9).1; omega
          clear hlta hhda hga hce hSe hel
          generalize hwo : wr = wo at *
          clear hwo
          go_wp2
          go_loopw [202] (fun jv wx => ∃ j : Nat, j ≤ a ∧ jv = .int .i64 (j : Int) ∧ Hid (Below V5.heap.size V5 wx)) (fun jv _ => a - (intOf jv).toNat)
          case atStart => exact ⟨0, Nat.zero_le _, rfl, HA⟩
          case round =>
            obtain ⟨j, hj, rfl, HJ⟩ := hrel
            have cvj := (HV5.out.below HJ.out).cell
            by_cases hltj : j < a
            · skip
              have hltjI : (j : Int) < a := by omega
              have HLTJ := Lib.hid hltj
              obtain ⟨hdj, hhdj⟩ : ∃ hdj, (headsL g)[j]? = some hdj := ⟨_, List.getElem?_eq_getElem (by rw [HM.out]; omega)⟩
              have hgj := fun y (hy : y < g.length) => bodyRows_eget hhdj hy
              rw [HM.out] at hgj
              have hne := headsL_lt hhdj HHA.out.1 hltj
              have HHJ := Lib.hid (And.intro hhdj (And.intro hgj hne))
              have HEJ := Lib.hid (HE.out.below HJ.out)
              clear hltj hhdj hgj hne cva
              go_wp2
              go_loopw [21, 22, 23, 208] (fun bv iv jv xv wx => ∃ x : Nat, x ≤ g.length ∧ bv = .bool (anyTo (fun y => bB g hda y && bB g hdj y) x) ∧ iv = .bool (anyTo (fun y => bB g hda y && !bB g hdj y) x) ∧ jv = .bool (anyTo (fun y => bB g hdj y && !bB g hda y) x) ∧ xv = .int .i64 (x : Int) ∧ wx = wr) (fun _ _ _ xv _ => g.length - (intOf xv).toNat)
              case atStart => exact ⟨0, Nat.zero_le _, rfl, rfl, rfl, rfl, rfl⟩
              case round =>
                obtain ⟨x, hx, rfl, rfl, rfl, rfl, rfl⟩ := hrel
                by_cases hltx : x < g.length
                · skip
                  as_aux_lemma =>
                  have hltxI : (x : Int) < g.length := by omega
                  have HLTX := Lib.hid hltx
                  obtain ⟨e1, _, ba, hov1, _, _, hca, _, _, hca2, _, _⟩ := HEJ.out.cell (p := a) (s := x) (by rw [HBL.out]; exact HLTA.out) (by rw [(HHA.out.2 x hltx).1, marks_len]; exact hltx)
                  cases hov1
                  obtain ⟨e2, _, bj, hov2, _, _, hcj, _, _, hcj2, _, _⟩ := HEJ.out.cell (p := j) (s := x) (by rw [HBL.out]; have := HLTA.out; omega) (by rw [(HHJ.out.2.1 x hltx).1, marks_len]; exact hltx)
                  cases hov2
                  rw [(HHA.out.2 x hltx).2] at hca2
                  rw [(HHJ.out.2.1 x hltx).2] at hcj2
                  have hs1 := anyTo_succ (fun y => bB g hda y && bB g hdj y) x
                  have hs2 := anyTo_succ (fun y => bB g hda y && !bB g hdj y) x
                  have hs3 := anyTo_succ (fun y => bB g hdj y && !bB g hda y) x
                  have hjI : (j : Int) < i := by omega
                  have HS := Lib.hid (And.intro hs1 (And.intro hs2 hs3))
                  clear hs1 hs2 hs3 hltx
                  generalize anyTo (fun y => bB g hda y && bB g hdj y) x = p1 at *
                  generalize anyTo (fun y => bB g hda y && !bB g hdj y) x = p2 at *
                  generalize anyTo (fun y => bB g hdj y && !bB g hda y) x = p3 at *
                  generalize bB g hda x = q1 at *
                  generalize bB g hdj x = q2 at *
                  go_upto_region 48 with fail
                  go_cut [21] (fun v wx => v = .bool (p1 || (q1 && q2)) ∧ wx = wr)
                  case first =>
                    cases p1
                    · cases q1
                      · go_wp2
                        go_meet
                        exact ⟨rfl, rfl⟩
                      · cases q2
                        all_goals go_wp2
                        all_goals go_meet
                        all_goals exact ⟨rfl, rfl⟩
                    · go_wp2
                      go_meet
                      exact ⟨rfl, rfl⟩
                  case rest =>
                    obtain ⟨rfl, rfl⟩ := hcut
                    go_upto_region 49 with fail
                    go_cut [22] (fun v wx => v = .bool (p2 || (q1 && !q2)) ∧ wx = wc)
                    case first =>
                      cases p2
                      · cases q1
                        · go_wp2
                          go_meet
                          exact ⟨rfl, rfl⟩
                        · cases q2
                          all_goals go_wp2
                          all_goals go_meet
                          all_goals exact ⟨rfl, rfl⟩
                      · go_wp2
                        go_meet
                        exact ⟨rfl, rfl⟩
                    case rest =>
                      obtain ⟨rfl, rfl⟩ := hcut
                      have HRL2 : ∀ (v : Bool), (p3 || (q2 && !q1)) = v → anyTo (fun y => bB g hdj y && !bB g hda y) (x + 1) = v := fun v hv => by rw [HS.out.2.2, hv]
                      have HRL3 := Lib.hid HRL2
                      clear HRL2
                      cases p3
                      · cases q2
                        · go_wp2
                          go_roundw
                          case rel => exact ⟨x + 1, HLTX.out, by rw [HS.out.1], by rw [HS.out.2.1], by rw [HRL3.out _ rfl]; first | rfl | simp, by go_num, trivial⟩
                          case measure => have := HLTX.out; simp [intOf]; omega
                        · cases q1
                          all_goals go_wp2
                          all_goals go_roundw
                          all_goals first
                            | (have := HLTX.out; simp [intOf]; omega)
                            | exact ⟨x + 1, HLTX.out, by rw [HS.out.1], by rw [HS.out.2.1], by rw [HRL3.out _ rfl]; first | rfl | simp, by go_num, trivial⟩
                      · go_wp2
                        go_roundw
                        case rel => exact ⟨x + 1, HLTX.out, by rw [HS.out.1], by rw [HS.out.2.1], by rw [HRL3.out _ rfl]; first | rfl | simp, by go_num, trivial⟩
                        case measure => have := HLTX.out; simp [intOf]; omega
                · skip
                  as_aux_lemma =>
                  obtain rfl : x = g.length := by omega
                  have hltxI : ¬ (g.length : Int) < g.length := by omega
                  have hnest : ∀ p1 p2 p3 : Bool, anyTo (fun y => bB g hda y && bB g hdj y) g.length = p1 → anyTo (fun y => bB g hda y && !bB g hdj y) g.length = p2 → anyTo (fun y => bB g hdj y && !bB g hda y) g.length = p3 → p1 = true → p2 = true → p3 = true → False := by
                    rintro p1 p2 p3 h1 h2 h3 rfl rfl rfl
                    exact bod_nest HGV.out (List.mem_of_getElem? HHA.out.1) (List.mem_of_getElem? HHJ.out.1) (by have := HHJ.out.2.2; omega) h1 h2 h3
                  have hn2 := hnest _ _ _ rfl rfl rfl
                  generalize anyTo (fun y => bB g hda y && bB g hdj y) g.length = p1 at *
                  generalize anyTo (fun y => bB g hda y && !bB g hdj y) g.length = p2 at *
                  generalize anyTo (fun y => bB g hdj y && !bB g hda y) g.length = p3 at *
                  obtain ⟨q, hq⟩ : ∃ q, redF g = q := ⟨_, rfl⟩
                  have HQ := Lib.hid hq
                  have HN := Lib.hid hn2
                  have hvj := HV5.out.below HJ.out
                  clear hq hn2 hnest
                  have hred : ∀ q', q' = q → Calls Try.prog 28 #[.agg #[.slice (some ⟨bp, 0, none⟩) g.length g.length]] wr fun e w' => e = .returned (.bool q') ∧ Below wr.heap.size wr w' := fun q' e => by rw [e]; exact red_of hvj.2 HQ.out
                  have HRED := Lib.hid hred
                  clear hred
                  have hfin : ∀ w', Below wr.heap.size wr w' → Hid (Below V5.heap.size V5 w') := fun w' hb => HJ.out.trans (hb.mono HJ.out.size)
                  have HFIN := Lib.hid hfin
                  clear hfin
                  cases q with
                  | false =>
                    go_wp2_with (go_at_call 28; go_must (refine (HRED.out _ rfl).mono ?_; rintro e w6 ⟨rfl, hb6⟩))
                    go_roundw
                    case rel => exact ⟨j + 1, HLTJ.out, by go_num, HFIN.out _ hb6⟩
                    case measure => have := HLTJ.out; simp [intOf]; omega
                  | true =>
                    cases p1 with
                    | false =>
                      go_wp2_with (go_at_call 28; go_must (refine (HRED.out _ rfl).mono ?_; rintro e w6 ⟨rfl, hb6⟩))
                      go_roundw
                      case rel => exact ⟨j + 1, HLTJ.out, by go_num, HFIN.out _ hb6⟩
                      case measure => have := HLTJ.out; simp [intOf]; omega
                    | true =>
                      cases p2 with
                      | false =>
                        go_wp2_with (go_at_call 28; go_must (refine (HRED.out _ rfl).mono ?_; rintro e w6 ⟨rfl, hb6⟩))
                        go_roundw
                        case rel => exact ⟨j + 1, HLTJ.out, by go_num, HFIN.out _ hb6⟩
                        case measure => have := HLTJ.out; simp [intOf]; omega
                      | true =>
                        cases p3 with
                        | true => exact (HN.out rfl rfl rfl).elim
                        | false =>
                          go_wp2_with (go_at_call 28; go_must (refine (HRED.out _ rfl).mono ?_; rintro e w6 ⟨rfl, hb6⟩))
                          go_roundw
                          case rel => exact ⟨j + 1, HLTJ.out, by go_num, HFIN.out _ hb6⟩
                          case measure => have := HLTJ.out; simp [intOf]; omega
            · skip
              obtain rfl : j = a := by omega
              have hltjI : ¬ (j : Int) < j := by omega
              go_wp2
              go_roundw
              case rel => exact ⟨j + 1, HLTA.out, by go_num, HJ⟩
              case measure => have := HLTA.out; simp [intOf]; omega
        · skip
          obtain rfl : a = i := by omega
          have hltaI : ¬ (a : Int) < a := by omega
          go_wp2
          go_ret
          exact ⟨rfl, HB5.out.trans (HA.out.mono HB5.out.size)⟩
end Go.Proofs.Ytpfinkcnklkclaa
