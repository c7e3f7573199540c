/-
  The walk of the law FlowPaths.
-/
import Derived.Test.YtpfinkcnklkclaaLPath0
set_option linter.unusedVariables false
set_option linter.unusedSimpArgs false
namespace Go.Proofs.Ytpfinkcnklkclaa
open Go.RowKit

def encU8 (n : Nat) : Value := .int .u8 (n : Int)
/-- A row of numbers, and that all else stands. -/
def LI (w3 wr : World) (xs : List Int) : Prop := wr.heap[w3.heap.size]? = some (.cells (xs.map encInt).toArray 3 (0, 0)) ∧ Below w3.heap.size w3 wr

set_option maxRecDepth 100000 in
set_option maxHeartbeats 3200000 in
theorem law_paths (w : World) (sv cv : Value) (l : List (Int × Int)) (h : PairsOf w w.heap.size sv l) (hi : ∀ p ∈ l, I64 p.1 ∧ I64 p.2) (hl : l.length ≤ 9223372036854775807)
    (cs : List Nat) (hc : SliceOf encU8 w w.heap.size cv cs) (hcb : ∀ c ∈ cs, c ≤ 255) (hcl : cs.length ≤ 9223372036854775807) :
    Calls Try.prog 6 #[sv, cv] w fun e w' => e = .returned (.bool true) ∧ Below w.heap.size w w' := by
  obtain ⟨sa, sc, hsv⟩ : ∃ a c, sv = .slice a l.length c := let ⟨a, c, e, _⟩ := h; ⟨a, c, e⟩
  obtain ⟨ca, cc, hcv, hccap, hcx⟩ := hc
  have hgv := madeL_valid (l.take 60)
  have hgn := madeL_len (l.take 60)
  obtain ⟨g, hge⟩ : ∃ g, g = madeL (l.take 60) := ⟨_, rfl⟩
  rw [← hge] at hgv hgn
  have hmd : ∀ W, Below w.heap.size w W → Calls Try.prog 30 #[sv] W (RetGraph W g) := fun W hb => by
    rw [hge]; exact law_made W sv l ((h.below hb).mono hb.size) hi hl
  have HMD := Lib.hid hmd
  have HCX := Lib.hid hcx
  have HCB := Lib.hid hcb
  clear hmd h hi hcx hcb
  obtain ⟨ns, hO⟩ := ordF hgv
  have hmk := run_make_row' (P := Try.prog) 36 4 (.bool false) 1 Try.underlying36 Try.info_bool rfl .i64 .i64 g.length (by omega) (by omega)
  have hmk2 := run_make_row' (P := Try.prog) 29 3 (.int .i64 0) 8 Try.underlying29 Try.info_int rfl .i64 .i64 g.length (by omega) (by omega)
  have hnl : ns.length + 1 ≤ 20 := by have := (hO.is.nodes hgv).1; simp only [List.length_cons] at this; omega
  have HO := Lib.hid hO
  have HGV := Lib.hid hgv
  have hil : (idomL g).length = g.length := by simp [idomL]
  have hne : ((g.length : Int) != (g.length : Int)) = false := by simp
  clear hO hgv hge
  subst hsv
  subst hcv
  go_enter Try.func6, Try.ntmps6
  go_wp2_with (first
    | (go_at_call 16; go_must (refine (sanity_any _).mono ?_; rintro e w1 ⟨rfl, hb1⟩))
    | (go_at_call 30; go_must (refine (HMD.out _ hb1).mono ?_; rintro e w2 ⟨bp, rfl, hbp, hor, hgw, hb2⟩; have hv2 := Var.mk' (graph_own hor hgw) (Below.refl _ _); have cv2 := hv2.cell; have hb02 : Below w.heap.size w _ := (hb1.trans (hb2.mono hb1.size)).alloc (by have := hb1.size; have := hb2.size; omega) (.cells #[.slice (some ⟨bp, 0, none⟩) g.length g.length] 24)))
    | (go_at_call 23; go_must (refine (ans_dominators hv2.2).mono ?_; rintro e w4 ⟨dv, rfl, hd, hb4⟩; obtain ⟨da, dc, rfl⟩ := ownsRow_form hd; rw [hil]; have hv4 := hv2.below hb4; have cv4 := hv4.cell; have hb04 := hb02.trans (hb4.mono hb02.size); have hds : SliceOf encInt w4 w4.heap.size _ (idomL g) := sliceOf_own hd (Nat.le_refl _); clear hb02 hb2 hb4 hd cv2 hv2 hor hgw))
    | (go_at_call 21; go_must (refine (ans_order hv4.2).mono ?_; rintro e w3 ⟨ov, rfl, ho, hb3⟩; rw [HO.out.eq] at ho; obtain ⟨oa, oc, rfl⟩ := ownsRow_form ho; have hv3 := Lib.hid (hv4.below hb3); have cv3 := hv3.out.cell; have hb03 := Lib.hid (hb04.trans (hb3.mono hb04.size)); have hso := Lib.hid (sliceOf_own (enc := encNat) (xs := 0 :: ns) ho (Nat.le_refl _)); have hds3 := Lib.hid (slice_next hds hb3); clear hb04 hb3 ho cv4 hv4 hds)))
  generalize hbx : w2.heap.size = bx at *
  have hlx : bx < w3.heap.size := World.block_lt_of_cell? w3 _ cv3
  clear hbx hbp
  simp only [List.length_cons] at *
  go_loopw [34] (fun i wr => ∃ k : Nat, k ≤ ns.length + 1 ∧ i = .int .i64 (k : Int) ∧ Hid (LI w3 wr (atL g.length ((0 :: ns).take k)))) (fun i _ => ns.length + 1 - (intOf i).toNat)
  case atStart =>
    refine ⟨0, Nat.zero_le _, rfl, ?_, (Below.refl _ _).alloc (Nat.le_refl _) _⟩
    rw [new_at rfl, toArray_madeCells]; simp [atL, encInt]
  case round =>
    obtain ⟨k, hk, rfl, HK⟩ := hrel
    by_cases hlt : k < ns.length + 1
    · obtain ⟨x, hx⟩ : ∃ x, (0 :: ns)[k]? = some x := ⟨_, List.getElem?_eq_getElem (by simpa using hlt)⟩
      have hxg := HO.out.lt x (List.mem_of_getElem? hx)
      have hxI : (x : Int) < g.length := by omega
      have hltI : (k : Int) < ns.length + 1 := by omega
      have HLT := Lib.hid hlt
      obtain ⟨oa', oc', e1, _, hxx⟩ := hso.out.below HK.out.2
      cases e1
      obtain ⟨bo, oo, rfl, _, co⟩ := hxx k x hx
      simp only [encNat] at co
      obtain ⟨u0, hu0⟩ : ∃ u, (atL g.length ((0 :: ns).take k))[x]? = some u := ⟨_, List.getElem?_eq_getElem (by rw [atL_len]; exact hxg)⟩
      have cs0 : wr.cell? ⟨w3.heap.size, x, none⟩ = some (.int .i64 u0) := cell_of_blk HK.out.1 (by simp [hu0, encInt])
      have fs0 : wr.frozen? ⟨w3.heap.size, x, none⟩ = false := free_of_blk HK.out.1
      have hset : Hid (LI w3 (wr.setCell ⟨w3.heap.size, x, none⟩ (.int .i64 (k : Int))) (atL g.length ((0 :: ns).take (k + 1)))) := by
        refine ⟨?_, HK.out.2.setCell (Nat.le_refl _) _⟩
        have hlk : ((0 :: ns).take k).length = k := by rw [List.length_take]; simp; omega
        rw [heap_setCell_self HK.out.1, List.take_add_one, hx]
        show _ = some (Obj.cells ((atL g.length ((0 :: ns).take k ++ [x])).map encInt).toArray 3 (0, 0))
        rw [atL_snoc, hlk]
        simp [encInt, List.map_set]
      clear hx hxx hu0
      go_wp2
      go_roundw
      case rel => exact ⟨k + 1, HLT.out, by go_num, hset⟩
      case measure => have := HLT.out; simp [intOf]; omega
    · obtain rfl : k = ns.length + 1 := by omega
      have hltI : ¬ ((ns.length + 1 : Nat) : Int) < ns.length + 1 := by omega
      have hAt := HK.out.1
      rw [List.take_of_length_le (by simp)] at hAt
      have HAT := Lib.hid hAt
      have hbk := Lib.hid HK.out.2
      have hvr := Lib.hid (hv3.out.below HK.out.2)
      have cvr := hvr.out.cell
      have hdr := Lib.hid (slice_next hds3.out HK.out.2)
      have hb0 := Lib.hid (hb03.out.trans (HK.out.2.mono hb03.out.size))
      have hatlt := lt_of_block hAt
      obtain ⟨ga2, gc2, hgf, _⟩ := hvr.out.2.rows.form
      clear hAt HK hb03 hv3 hso hds3 cv3
      generalize wr = w5 at *
      go_wp2
      go_loopw [13, 14] (fun nv kv wx => ∃ (n k : Nat) (xs : List Nat), k ≤ 40 ∧ nv = .int .i64 (n : Int) ∧ kv = .int .i64 (k : Int) ∧ Hid (Passed g xs n ∧ wx.heap[w5.heap.size]? = some (.cells ((marks g.length xs).map encBool).toArray 4 (0, 0)) ∧ Below w5.heap.size w5 wx)) (fun _ kv _ => 41 - (intOf kv).toNat)
      case atStart =>
        refine ⟨0, 0, [], by omega, rfl, rfl, Passed.start g, ?_, (Below.refl _ _).alloc (Nat.le_refl _) _⟩
        rw [new_at rfl, toArray_madeCells]; simp [marks, encBool]
      case round =>
        obtain ⟨n, k, xs, hk, rfl, rfl, HP⟩ := hrel
        have hno := (HO.out.mem n).2 HP.out.1.1
        have hng := HO.out.lt n hno
        have hngI : (n : Int) < g.length := by omega
        obtain ⟨da', dc', e2, _, hdx⟩ := hdr.out.below HP.out.2.2
        cases e2
        have hAtx := below_blk HP.out.2.2 HAT.out hatlt
        have cvx := (HP.out.2.2.cell (p := ⟨bx, 0, none⟩) (World.block_lt_of_cell? w5 _ cvr)).trans cvr
        have hmg := marks_get g.length xs n hng
        obtain ⟨m0, hm0⟩ : ∃ m0, decide (n ∈ xs) = m0 := ⟨_, rfl⟩
        rw [hm0] at hmg
        have cpn : wr.cell? ⟨w5.heap.size, n, none⟩ = some (.bool m0) := cell_of_blk HP.out.2.1 (by simp [hmg, encBool])
        have fpn : wr.frozen? ⟨w5.heap.size, n, none⟩ = false := free_of_blk HP.out.2.1
        have hnext : ∀ nq : Nat, Hid (((wr.drewN nq).setCell ⟨w5.heap.size, n, none⟩ (.bool true)).heap[w5.heap.size]? = some (.cells ((marks g.length (xs ++ [n])).map encBool).toArray 4 (0, 0)) ∧ Below w5.heap.size w5 ((wr.drewN nq).setCell ⟨w5.heap.size, n, none⟩ (.bool true))) := fun nq => by
          refine ⟨?_, (below_drewN HP.out.2.2).setCell (Nat.le_refl _) _⟩
          rw [heap_setCell_self (w := wr.drewN nq) HP.out.2.1, marks_snoc]
          simp [encBool, List.map_set]
        have HNX := Lib.hid hnext
        clear hmg hnext hm0
        obtain ⟨row, hrow⟩ : ∃ row, g[n]? = some row := ⟨_, List.getElem?_eq_getElem hng⟩
        have hsucc : succ g n = row := by unfold succ; rw [List.getD_eq_getElem?_getD, hrow]; rfl
        have HROW := Lib.hid (And.intro hrow hsucc)
        obtain ⟨bg, og, a2, cap2, hbge, hbgl, hcr5, _, hrx⟩ := hvr.out.2.rows.row hrow
        cases hbge
        rw [Nat.zero_add] at hcr5
        have hcr := (HP.out.2.2.cell (p := ⟨bp, n, none⟩) hbgl).trans hcr5
        have hrl := HGV.out.2 row (List.mem_of_getElem? hrow)
        have HRX := Lib.hid (And.intro hcr5 (And.intro hrx hrl))
        have hlbx := World.block_lt_of_cell? w5 _ cvr
        clear hrow hsucc hcr5 hrx hrl
        go_upto_block 3 with fail
        go_cut [13] (fun nv wx => ∃ n' : Nat, nv = .int .i64 (n' : Int) ∧ k < 40 ∧ Hid (Passed g (xs ++ [n]) n' ∧ wx.heap[w5.heap.size]? = some (.cells ((marks g.length (xs ++ [n])).map encBool).toArray 4 (0, 0)) ∧ Below w5.heap.size w5 wx))
        case first =>
          go_upto_region 19 with fail
          go_cut [110] (fun b wx => b = .bool false ∧ ∃ nq, wx = wr.drewN nq)
          case first =>
            by_cases hn0 : n = 0
            · have hz1 : ((n : Int) == 0) = true := by rw [beq_iff_eq]; omega
              have hz2 : ((n : Int) != 0) = false := by rw [bne_eq_false_iff_eq]; omega
              obtain ⟨bd, od, rfl, _, cd⟩ := hdx n _ ((HP.out.1.idom HGV.out HO.out).1 hn0)
              simp only [encInt] at cd
              clear hdx hn0
              go_wp2
              go_quiet (fail)
              go_wp2
              go_meet
              exact ⟨by first | rfl | (simp; omega), _, rfl⟩
            · have hz1 : ((n : Int) == 0) = false := by rw [beq_eq_false_iff_ne]; omega
              have hz2 : ((n : Int) != 0) = true := by rw [bne_iff_ne]; omega
              obtain ⟨dn, hdn, hdl, hdxs, hdo, hdp⟩ := (HP.out.1.idom HGV.out HO.out).2 hn0
              obtain ⟨bd, od, rfl, _, cd⟩ := hdx n _ hdn
              simp only [encInt] at cd
              have hdlI : (dn : Int) < g.length := by omega
              have cpd : wr.cell? ⟨w5.heap.size, dn, none⟩ = some (.bool true) := cell_of_blk HP.out.2.1 (by simp [marks_get _ _ _ hdl, hdxs, encBool])
              have hat1 : (atL g.length (0 :: ns))[dn]? = some (posOf (0 :: ns) dn : Int) := by
                obtain ⟨i, hi⟩ := List.getElem?_of_mem hdo
                rw [posOf_get HO.out.nodup hi]; exact atL_get _ _ rfl HO.out.nodup HO.out.lt i dn hi
              have hat2 : (atL g.length (0 :: ns))[n]? = some (posOf (0 :: ns) n : Int) := by
                obtain ⟨i, hi⟩ := List.getElem?_of_mem hno
                rw [posOf_get HO.out.nodup hi]; exact atL_get _ _ rfl HO.out.nodup HO.out.lt i n hi
              have ca1 : wr.cell? ⟨w3.heap.size, dn, none⟩ = some (.int .i64 (posOf (0 :: ns) dn : Int)) := cell_of_blk hAtx (by simp [hat1, encInt])
              have ca2 : wr.cell? ⟨w3.heap.size, n, none⟩ = some (.int .i64 (posOf (0 :: ns) n : Int)) := cell_of_blk hAtx (by simp [hat2, encInt])
              generalize posOf (0 :: ns) dn = pd at *
              generalize posOf (0 :: ns) n = pn at *
              have hpI : (pd : Int) < pn := by omega
              clear hdx hn0 hdn hdxs hdo hat1 hat2
              go_wp2
              go_quiet (fail)
              go_wp2
              go_meet
              exact ⟨by first | rfl | (simp; omega), _, rfl⟩
          case rest =>
            obtain ⟨rfl, nq, rfl⟩ := hcut
            clear hdx
            by_cases hA : cs.length ≤ k
            · have hAI : (cs.length : Int) ≤ k := by omega
              go_wp2
              go_ret
              exact ⟨rfl, hb0.out.trans ((HNX.out _).2.mono hb0.out.size)⟩
            · have hAI : (k : Int) < cs.length := by omega
              have hAn : ¬ (cs.length : Int) ≤ k := by omega
              by_cases hB : 40 ≤ k
              · have hBI : (40 : Int) ≤ k := by omega
                go_wp2
                go_ret
                exact ⟨rfl, hb0.out.trans ((HNX.out _).2.mono hb0.out.size)⟩
              · have hBI : ¬ (40 : Int) ≤ k := by omega
                by_cases hC : row.length = 0
                · have hCI : ((row.length : Int) == 0) = true := by rw [beq_iff_eq]; omega
                  go_wp2
                  go_ret
                  exact ⟨rfl, hb0.out.trans ((HNX.out _).2.mono hb0.out.size)⟩
                · have hCI : ((row.length : Int) == 0) = false := by rw [beq_eq_false_iff_ne]; omega
                  go_upto_region 24 with fail
                  have hn6 := HNX.out nq
                  generalize hw6 : (wr.drewN nq).setCell ⟨w5.heap.size, n, none⟩ (.bool true) = w6 at hn6 ⊢
                  have HN6 := Lib.hid hn6
                  have hcr6 := (hn6.2.cell (p := ⟨bp, n, none⟩) hbgl).trans HRX.out.1
                  have cv6 := (hn6.2.cell (p := ⟨bx, 0, none⟩) hlbx).trans cvr
                  obtain ⟨c, hcc⟩ : ∃ c, cs[k]? = some c := ⟨_, List.getElem?_eq_getElem (by omega)⟩
                  obtain ⟨bc, oc2, rfl, hbc, hcw⟩ := HCX.out k c hcc
                  have hc255 := HCB.out c (List.mem_of_getElem? hcc)
                  have hbw6 : Below w.heap.size w w6 := hb0.out.trans (hn6.2.mono hb0.out.size)
                  have hcw6 := (hbw6.cell (p := ⟨bc, oc2 + k, none⟩) hbc).trans hcw
                  simp only [encU8] at hcw6
                  obtain ⟨j, hj⟩ : ∃ j, c % row.length = j := ⟨_, rfl⟩
                  have hjl : j < row.length := by rw [← hj]; exact Nat.mod_lt _ (by omega)
                  have hjI : (j : Int) < row.length := by omega
                  have htm : (c : Int).tmod (row.length : Int) = (j : Int) := by rw [Int.tmod_eq_emod_of_nonneg (by omega), ← hj]; rfl
                  obtain ⟨s, hs⟩ : ∃ s, row[j]? = some s := ⟨_, List.getElem?_eq_getElem hjl⟩
                  obtain ⟨b2, o2, rfl, hb2, hc2⟩ := HRX.out.2.1 j s hs
                  have hc26 := (hn6.2.cell (p := ⟨b2, o2 + j, none⟩) hb2).trans hc2
                  simp only [encNat] at hc26
                  have hrl0 : (row.length : Int) ≠ 0 := by omega
                  have hrlz : ((row.length : Int) == 0) = false := by rw [beq_eq_false_iff_ne]; omega
                  have hss : Hid (s ∈ succ g n) := by unfold Hid; rw [HROW.out.2]; exact List.mem_of_getElem? hs
                  clear hn6 hw6 hj hs hc2 hcw hcc hbw6 hcr cvx cpn fpn
                  go_quiet (fail)
                  go_wp2
                  go_meet
                  exact ⟨s, rfl, by omega, HP.out.1.step hss.out, HN6.out.1, below_drewN HN6.out.2⟩
        case rest =>
          obtain ⟨n', rfl, hk40, HP2⟩ := hcut
          go_wp2
          go_roundw
          case rel => exact ⟨n', k + 1, xs ++ [n], by omega, rfl, by go_num, HP2.out⟩
          case measure => simp [intOf]; omega
end Go.Proofs.Ytpfinkcnklkclaa
