/-
  The walk of the law FlowAcyclic.
-/
import Derived.Test.YtpfinkcnklkclaaBuild
set_option linter.unusedVariables false
set_option linter.unusedSimpArgs false
namespace Go.Proofs.Ytpfinkcnklkclaa
open Go.RowKit

def upRow (g : List (List Nat)) (y k : Nat) : List Nat := ((succ g y).take k).filter fun s => decide (y < s)
theorem upRow_zero (g : List (List Nat)) (y : Nat) : upRow g y 0 = [] := by simp [upRow]
theorem upRow_succ {g : List (List Nat)} {y k s : Nat} (hs : (succ g y)[k]? = some s) : upRow g y (k + 1) = if y < s then upRow g y k ++ [s] else upRow g y k := by
  unfold upRow
  rw [List.take_add_one, hs, List.filter_append]
  by_cases h : y < s <;> simp [h]
theorem upRow_len (g : List (List Nat)) (y k : Nat) : (upRow g y k).length ≤ k := by
  unfold upRow
  exact Nat.le_trans (List.length_filter_le _ _) (by rw [List.length_take]; omega)
theorem upRow_full (g : List (List Nat)) : ((List.range g.length).map fun y => upRow g y (succ g y).length) = upG g := by
  unfold upG upRow
  exact List.map_congr_left fun y _ => by rw [List.take_length]

/-- The positions being laid, beside the order. -/
def LAt (W5 wr : World) (ov : Value) (xs : List Int) (ord : List Nat) : Prop := wr.heap[W5.heap.size]? = some (.cells (xs.map encInt).toArray 3 (0, 0)) ∧ wr.ownsRow (W5.heap.size + 1) 3 1 ov ord.length (ord.map encNat) ∧ Below W5.heap.size W5 wr

set_option maxRecDepth 100000 in
set_option maxHeartbeats 3200000 in
theorem law_acyclic (w : World) (sv : Value) (l : List (Int × Int)) (h : PairsOf w w.heap.size sv l) (hi : ∀ p ∈ l, I64 p.1 ∧ I64 p.2) (hl : l.length ≤ 9223372036854775807) :
    Calls Try.prog 12 #[sv] w fun e w' => e = .returned (.bool true) ∧ Below w.heap.size w w' := by
  obtain ⟨sa, sc, hsv⟩ : ∃ a c, sv = .slice a l.length c := let ⟨a, c, e, _⟩ := h; ⟨a, c, e⟩
  have hgv := madeL_valid (l.take 60)
  have hgn := madeL_len (l.take 60)
  obtain ⟨g, hge⟩ : ∃ g, g = madeL (l.take 60) := ⟨_, rfl⟩
  rw [← hge] at hgv hgn
  have hmd : ∀ W, Below w.heap.size w W → Calls Try.prog 30 #[sv] W (RetGraph W g) := fun W hb => by
    rw [hge]; exact law_made W sv l ((h.below hb).mono hb.size) hi hl
  have HMD := Lib.hid hmd
  have HGV := Lib.hid hgv
  have hmk := run_make_row' (P := Try.prog) 22 29 (.slice none 0 0) 24 Try.underlying22 Try.info_ints rfl .i64 .i64 g.length (by omega) (by omega)
  have hmk2 := run_make_row' (P := Try.prog) 29 3 (.int .i64 0) 8 Try.underlying29 Try.info_int rfl .i64 .i64 g.length (by omega) (by omega)
  clear hmd h hi hge hgv
  subst hsv
  go_enter Try.func12, Try.ntmps12
  go_wp2_with (first
    | (go_at_call 16; go_must (refine (sanity_any _).mono ?_; rintro e w1 ⟨rfl, hb1⟩))
    | (go_at_call 30; go_must (refine (HMD.out _ hb1).mono ?_; rintro e w2 ⟨bp, rfl, hbp, hor, hgw, hb2⟩; have HRL := Lib.hid hgw.2.2; have hv2 := Var.mk' (graph_own hor hgw) (Below.refl _ _); have cv2 := hv2.cell; have hb02 : Below w.heap.size w _ := (hb1.trans (hb2.mono hb1.size)).alloc (by have := hb1.size; have := hb2.size; omega) (.cells #[.slice (some ⟨bp, 0, none⟩) g.length g.length] 24))))
  have HM0 := Lib.hid (GMem.start' (w2.alloc (.cells #[.slice (some ⟨bp, 0, none⟩) g.length g.length] 24)) (w2.heap.size + 1) (by simp) g.length 2000000)
  have hVs : (w2.alloc (.cells #[.slice (some ⟨bp, 0, none⟩) g.length g.length] 24)).heap.size = w2.heap.size + 1 := by simp
  generalize hbx : w2.heap.size = bx at *
  generalize hV : w2.alloc (.cells #[.slice (some ⟨bp, 0, none⟩) g.length g.length] 24) = V at *
  have HV2 := Lib.hid hv2
  have HVS := Lib.hid hVs
  have hbxV : bx < V.heap.size := by omega
  clear hbx hV hor hgw hb1 hb2 hv2 hVs hbp
  obtain ⟨ii, hii, hzi0, hzi1, hzi2⟩ := info_parts Try.info_int
  go_loopw [26] (fun uv wr => ∃ u : Nat, u ≤ g.length ∧ uv = .int .i64 (u : Int) ∧ Hid (GMem V wr (bx + 1) (bx + 1 + 1) g.length 2000000 (partG g.length id (upRow g) (fun y => (succ g y).length) u 0))) (fun uv _ => g.length - (intOf uv).toNat)
  case atStart => exact ⟨0, Nat.zero_le _, rfl, by rw [partG_start (upRow_zero g)]; exact HM0⟩
  case round =>
    obtain ⟨u, hu, rfl, HU⟩ := hrel
    have cgr := (HU.out.hb.cell (p := ⟨bx, 0, none⟩) hbxV).trans cv2
    by_cases hltu : u < g.length
    · have hltuI : (u : Int) < g.length := by omega
      have HLTU := Lib.hid hltu
      obtain ⟨row, hrow⟩ : ∃ row, g[u]? = some row := ⟨_, List.getElem?_eq_getElem hltu⟩
      have hsucc : succ g u = row := by unfold succ; rw [List.getD_eq_getElem?_getD, hrow]; rfl
      have hrl := HRL.out row (List.mem_of_getElem? hrow)
      obtain ⟨bg, og, a2, cap2, e1, hbg, hc1, hcap2, hx⟩ := HV2.out.2.rows.row hrow
      cases e1
      rw [Nat.zero_add] at hc1
      have hcr := (HU.out.hb.cell (p := ⟨bp, u, none⟩) hbg).trans hc1
      have HROW := Lib.hid (And.intro hrow hsucc)
      have HX := Lib.hid hx
      clear hrow hsucc hltu hc1 hbg hx
      go_wp2
      go_loopw [35] (fun kv wx => ∃ k : Nat, k ≤ row.length ∧ kv = .int .i64 (k : Int) ∧ Hid (GMem V wx (bx + 1) (bx + 1 + 1) g.length 2000000 (partG g.length id (upRow g) (fun y => (succ g y).length) u k))) (fun kv _ => row.length - (intOf kv).toNat)
      case atStart => exact ⟨0, Nat.zero_le _, rfl, HU⟩
      case round =>
        obtain ⟨k, hk, rfl, HK⟩ := hrel
        by_cases hltk : k < row.length
        · have hltkI : (k : Int) < row.length := by omega
          have HLTK := Lib.hid hltk
          obtain ⟨s, hsk⟩ : ∃ s, row[k]? = some s := ⟨_, List.getElem?_eq_getElem hltk⟩
          obtain ⟨b2, o2, rfl, hb2, cs1⟩ := HX.out k s hsk
          have cs2 := (HK.out.hb.cell (p := ⟨b2, o2 + k, none⟩) hb2).trans cs1
          simp only [encNat] at cs2
          have hus := upRow_succ (g := g) (y := u) (by rw [HROW.out.2]; exact hsk)
          have HUS := Lib.hid hus
          have hul := upRow_len g u k
          clear hsk hus hltk cs1 hb2
          by_cases hlt : u < s
          · have hltI : (u : Int) < s := by omega
            have HLT := Lib.hid hlt
            have hR := partG_at (fr := id) (row := upRow g) (len := fun y => (succ g y).length) (u := u) (k := k) HLTU.out rfl
            have hps : (partG g.length id (upRow g) (fun y => (succ g y).length) u k).set u (upRow g u k ++ [s]) = partG g.length id (upRow g) (fun y => (succ g y).length) u (k + 1) := by
              rw [← partG_set (fr := id) (u := u) HLTU.out rfl (fun y _ hy => hy) (k + 1), HUS.out, if_pos hlt]
            have HPS := Lib.hid hps
            clear hps
            generalize hRe : upRow g u k = ur at *
            have HRE := Lib.hid hRe
            obtain ⟨ap, capp, cp, hop, fp⟩ := HK.out.hr.get hR
            have lbg := lt_of_block HK.out.hg
            have lbp := HK.out.hr.bplt
            obtain ⟨cc, hcc⟩ := HK.out.hr.blk
            have nbg := ownsRow_block_ne hop HK.out.hg (.inr (by decide))
            have nbp := ownsRow_block_ne hop hcc (.inr (by decide))
            have chr : wr.cell? ⟨bx + 1 + 1, 0, none⟩ = some (.slice (some ⟨bx + 1, 0, none⟩) g.length g.length) := cell_of_blk HK.out.hg (by simp)
            have HR := Lib.hid (And.intro hR hop)
            have hszV := HK.out.hb.size
            clear hcc hR hop hRe hlt
            have fp' : ∀ o, (wr.alloc o).frozen? ⟨bx + 1, u, none⟩ = false := fun o => (World.frozen?_of_block (w := wr) (Below.heap_alloc _ _ _ lbp)).trans fp
            have cp' : ∀ o, (wr.alloc o).cell? ⟨bx + 1, u, none⟩ = some (.slice ap ur.length capp) := fun o => (World.cell?_of_block (w := wr) (Below.heap_alloc _ _ _ lbp)).trans cp
            have chr' : ∀ o, (wr.alloc o).cell? ⟨bx + 1 + 1, 0, none⟩ = some (.slice (some ⟨bx + 1, 0, none⟩) g.length g.length) := fun o => (World.cell?_of_block (w := wr) (Below.heap_alloc _ _ _ lbg)).trans chr
            go_upto_region 11 with fail
            go_region_law (first | (refine step_append_lies _ (by rfl) (.tmp 49) (.tmp 51) _ (by rfl) V.heap.size 3 ii (.int .i64 0) 1 8 Try.underlying29 hii hzi0 hzi1 hzi2 rfl (by omega) (.slice ap ur.length capp) ur.length (ur.map encNat) (by rfl) ((HR.out.2.alloc _).drew) ⟨wr.heap.size, 0, none⟩ 1 1 [.int .i64 (s : Int)] (by rfl) (by rfl) (World.news_of_block (cs := #[.int .i64 (s : Int)]) (t := 3) (fr := (0, 0)) (heap_alloc_new wr _)) (by simp [Value.oneCell']) (by omega) (by unfold maxLen; omega) (by omega) (by simp; omega) (wr.heap.size + 1) (by simp) ?_; intro gg cap3 w3 hown3 hgrow hat hlt4; have c23 := (hgrow.cell_far ⟨bx + 1 + 1, 0, none⟩ (by simp; omega) (Ne.symm nbg)).trans (chr' _); have cp3 := (hgrow.cell_far ⟨bx + 1, u, none⟩ (by simp; omega) (Ne.symm nbp)).trans (cp' _); have fp3 := (hgrow.frozen_far ⟨bx + 1, u, none⟩ (by simp; omega) (Ne.symm nbp)).trans (fp' _)))
            all_goals go_wp2_with fail
            all_goals go_roundw
            all_goals first
              | (have := HLTK.out; simp [intOf]; omega)
              | (refine ⟨k + 1, HLTK.out, by go_num, ?_⟩
                 have hput := HK.out.put (row' := ur ++ [s]) HR.out.1 cp (grownBy_of_drew hgrow) (by simpa [encNat] using hown3) hat (by omega) (by simp; omega)
                 rw [HPS.out] at hput
                 simpa using Lib.hid hput)
          · have hltI : ¬ (u : Int) < s := by omega
            have HLT := Lib.hid hlt
            clear hlt
            go_wp2
            go_roundw
            case rel => exact ⟨k + 1, HLTK.out, by go_num, by rw [partG_same (by rw [HUS.out, if_neg HLT.out])]; exact HK⟩
            case measure => have := HLTK.out; simp [intOf]; omega
        · obtain rfl : k = row.length := by omega
          have hltkI : ¬ (row.length : Int) < row.length := by omega
          go_wp2
          go_roundw
          case rel =>
            refine ⟨u + 1, HLTU.out, by go_num, ?_⟩
            have := partG_next (n := g.length) (fr := id) (len := fun y => (succ g y).length) (u := u) (upRow_zero g)
            rw [← this]
            show Hid (GMem V wr (bx + 1) (bx + 1 + 1) g.length 2000000 (partG g.length id (upRow g) (fun y => (succ g y).length) u (succ g u).length))
            rw [HROW.out.2]; exact HK
          case measure => have := HLTU.out; simp [intOf]; omega
    · obtain rfl : u = g.length := by omega
      have hltuI : ¬ (g.length : Int) < g.length := by omega
      have hG := HU.out
      rw [partG_full (fr := id) (fun y hy => hy)] at hG
      have hfull : ((List.range g.length).map fun y => upRow g (id y) ((fun y => (succ g y).length) (id y))) = upG g := upRow_full g
      rw [hfull] at hG
      have hhv := upG_valid HGV.out
      have hvar := hG.graph hhv (by omega) (Nat.le_refl _)
      have hlen := upG_len g
      obtain ⟨ms, hP⟩ := ordF hhv
      have hup : ∀ u s, s ∈ succ (upG g) u → u < s := fun u s hs => (upG_succ u s hs).2
      have hml : ms.length + 1 ≤ 20 := by have := (hP.is.nodes hhv).1; simp only [List.length_cons] at this; omega
      have HUP := Lib.hid (And.intro hhv (And.intro hup (And.intro (up_red hhv hup) (up_loops hhv hup))))
      have HP := Lib.hid hP
      have HB0 := Lib.hid (hb02.trans (hG.hb.mono hb02.size))
      have HVH := Lib.hid hvar
      have HLEN := Lib.hid hlen
      have chr : wr.cell? ⟨bx + 1 + 1, 0, none⟩ = some (.slice (some ⟨bx + 1, 0, none⟩) g.length g.length) := hvar.cell
      have hszr : bx + 1 + 1 < wr.heap.size := lt_of_block hvar.1
      clear hG hfull hhv hvar hlen hP hup cgr cv2 HU
      generalize wr = W5 at *
      go_wp2_with (go_at_call 21; go_must (refine (ans_order (HVH.out.below ((Below.refl _ _).alloc (Nat.le_refl _) _)).2).mono ?_; rintro e w6 ⟨ov, rfl, ho, hb6⟩; rw [HP.out.eq] at ho; have ho6 := ho; simp only [List.length_cons] at ho6; obtain ⟨ob, oc, rfl, hob, _⟩ := ho6.form (by omega); have HO6 := Lib.hid (And.intro ho hb6); clear ho hb6 hob))
      have hA6 : w6.heap[W5.heap.size]? = some (.cells ((atP g.length []).map encInt).toArray 3 (0, 0)) := by
        rw [below_blk HO6.out.2 (new_at rfl) (by simp), toArray_madeCells]; simp [atP, encInt]
      have HLA : Hid (LAt W5 w6 (.slice (some ⟨ob, 0, none⟩) (ms.length + 1) oc) (atP g.length ((0 :: ms).take 0)) (0 :: ms)) := ⟨hA6, by simpa using ho6, ((Below.refl _ _).alloc (Nat.le_refl _) _).trans (HO6.out.2.mono (by simp))⟩
      clear ho6 hA6
      go_loopw [63] (fun iv wx => ∃ k : Nat, k ≤ ms.length + 1 ∧ iv = .int .i64 (k : Int) ∧ Hid (LAt W5 wx (.slice (some ⟨ob, 0, none⟩) (ms.length + 1) oc) (atP g.length ((0 :: ms).take k)) (0 :: ms))) (fun iv _ => ms.length + 1 - (intOf iv).toNat)
      case atStart => exact ⟨0, Nat.zero_le _, rfl, HLA⟩
      case round =>
        obtain ⟨k, hk, rfl, HK⟩ := hrel
        by_cases hlt : k < ms.length + 1
        · have hltI : (k : Int) < ms.length + 1 := by omega
          have HLT := Lib.hid hlt
          obtain ⟨x, hx⟩ : ∃ x, (0 :: ms)[k]? = some x := ⟨_, List.getElem?_eq_getElem (by simpa using hlt)⟩
          have hxg := HP.out.lt x (List.mem_of_getElem? hx)
          rw [HLEN.out] at hxg
          have hxI : (x : Int) < g.length := by omega
          have co : wr.cell? ⟨ob, k, none⟩ = some (.int .i64 (x : Int)) := (HK.out.2.1.cellAt k (by simpa using hlt)).trans (by rw [List.getElem?_map, hx]; rfl)
          obtain ⟨u0, hu0⟩ : ∃ u, (atP g.length ((0 :: ms).take k))[x]? = some u := ⟨_, List.getElem?_eq_getElem (by rw [atP_len]; exact hxg)⟩
          have cs0 : wr.cell? ⟨W5.heap.size, x, none⟩ = some (.int .i64 u0) := cell_of_blk HK.out.1 (by simp [hu0, encInt])
          have fs0 : wr.frozen? ⟨W5.heap.size, x, none⟩ = false := free_of_blk HK.out.1
          have hset : Hid (LAt W5 (wr.setCell ⟨W5.heap.size, x, none⟩ (.int .i64 ((k : Int) + 1))) (.slice (some ⟨ob, 0, none⟩) (ms.length + 1) oc) (atP g.length ((0 :: ms).take (k + 1))) (0 :: ms)) := by
            refine ⟨?_, ownsRow_setCell_other HK.out.2.1 (fun e => by have := (HK.out.2.1.lt _ e).1; simp at this; omega) _, HK.out.2.2.setCell (Nat.le_refl _) _⟩
            have hlk : ((0 :: ms).take k).length = k := by rw [List.length_take]; simp; omega
            rw [heap_setCell_self HK.out.1, List.take_add_one, hx]
            show _ = some (Obj.cells ((atP g.length ((0 :: ms).take k ++ [x])).map encInt).toArray 3 (0, 0))
            rw [atP_snoc, hlk]
            simp [encInt, List.map_set]
          clear hx hu0 hlt
          go_wp2
          go_roundw
          case rel => exact ⟨k + 1, HLT.out, by go_num, hset⟩
          case measure => have := HLT.out; simp [intOf]; omega
        · obtain rfl : k = ms.length + 1 := by omega
          have hltI : ¬ ((ms.length + 1 : Nat) : Int) < ms.length + 1 := by omega
          have hAt := HK.out.1
          rw [List.take_of_length_le (by simp)] at hAt
          have HAT := Lib.hid hAt
          have HB5 := Lib.hid HK.out.2.2
          have hv7 := Lib.hid (HVH.out.below HK.out.2.2)
          have ch7 := hv7.out.cell
          clear hAt HK chr HLA
          generalize wr = W7 at *
          go_wp2
          go_loopw [85] (fun uv wx => ∃ (u nq : Nat), u ≤ g.length ∧ uv = .int .i64 (u : Int) ∧ wx = W7.drewN nq) (fun uv _ => g.length - (intOf uv).toNat)
          case atStart => exact ⟨0, 0, Nat.zero_le _, rfl, rfl⟩
          case round =>
            obtain ⟨u, nq, hu, rfl, rfl⟩ := hrel
            by_cases hltu : u < g.length
            · have hltuI : (u : Int) < g.length := by omega
              have HLTU := Lib.hid hltu
              obtain ⟨row, hrow⟩ : ∃ row, (upG g)[u]? = some row := ⟨_, List.getElem?_eq_getElem (by rw [HLEN.out]; exact hltu)⟩
              have hsucc : succ (upG g) u = row := by unfold succ; rw [List.getD_eq_getElem?_getD, hrow]; rfl
              have hrl := hv7.out.2.row row (List.mem_of_getElem? hrow)
              obtain ⟨bg, og, a2, cap2, e1, hbg, hc1, hcap2, hx⟩ := hv7.out.2.rows.row hrow
              cases e1
              rw [Nat.zero_add] at hc1
              have HROW := Lib.hid (And.intro hrow hsucc)
              have HX := Lib.hid hx
              clear hrow hsucc hltu hbg hx
              go_wp2
              go_loopw [94] (fun kv wx => ∃ (k nq : Nat), k ≤ row.length ∧ kv = .int .i64 (k : Int) ∧ wx = W7.drewN nq) (fun kv _ => row.length - (intOf kv).toNat)
              case atStart => exact ⟨0, nq, Nat.zero_le _, rfl, rfl⟩
              case round =>
                obtain ⟨k, nq, hk, rfl, rfl⟩ := hrel
                by_cases hltk : k < row.length
                · have hltkI : (k : Int) < row.length := by omega
                  have HLTK := Lib.hid hltk
                  obtain ⟨s, hsk⟩ : ∃ s, row[k]? = some s := ⟨_, List.getElem?_eq_getElem hltk⟩
                  obtain ⟨b2, o2, rfl, hb2, cs1⟩ := HX.out k s hsk
                  simp only [encNat] at cs1
                  have hsu : s ∈ succ (upG g) u := by rw [HROW.out.2]; exact List.mem_of_getElem? hsk
                  have hsg : s < g.length := by have := succ_lt HUP.out.1 hsu; rw [HLEN.out] at this; exact this
                  have hsgI : (s : Int) < g.length := by omega
                  have hat := atP_get (n := g.length) _ (0 :: ms) rfl HP.out.nodup (fun x hx => by rw [← HLEN.out]; exact HP.out.lt x hx)
                  by_cases hum : u ∈ 0 :: ms
                  · have hor := up_order HP.out HUP.out.2.1 hum hsu
                    obtain ⟨pu, hpu⟩ := List.getElem?_of_mem hum
                    obtain ⟨ps, hps⟩ := List.getElem?_of_mem hor.1
                    have hlt2 : pu < ps := by have h1 := hor.2; have h2 := posOf_get HP.out.nodup hpu; have h3 := posOf_get HP.out.nodup hps; omega
                    have cu : W7.cell? ⟨W5.heap.size, u, none⟩ = some (.int .i64 ((pu : Int) + 1)) := cell_of_blk HAT.out (by simp [hat.1 pu u hpu, encInt])
                    have cs : W7.cell? ⟨W5.heap.size, s, none⟩ = some (.int .i64 ((ps : Int) + 1)) := cell_of_blk HAT.out (by simp [hat.1 ps s hps, encInt])
                    have ht1 : decide (0 < (pu : Int) + 1) = true := by rw [decide_eq_true_eq]; omega
                    have ht2 : decide ((ps : Int) + 1 ≤ (pu : Int) + 1) = false := by rw [decide_eq_false_iff_not]; omega
                    have ht3 : decide ((ps : Int) ≤ (pu : Int)) = false := by rw [decide_eq_false_iff_not]; omega
                    clear hat hor hpu hps hsu hsk hum hltk hsg hb2
                    go_wp2
                    go_quiet (fail)
                    go_wp2
                    go_roundw
                    case rel => exact ⟨k + 1, _, HLTK.out, by go_num, rfl⟩
                    case measure => have := HLTK.out; simp [intOf]; omega
                  · have hul := HLTU.out
                    have cu : W7.cell? ⟨W5.heap.size, u, none⟩ = some (.int .i64 0) := cell_of_blk HAT.out (by simp [hat.2 u hul hum, encInt])
                    clear hat hsu hsk hum hltk hsg hb2
                    go_wp2
                    go_quiet (fail)
                    go_wp2
                    go_roundw
                    case rel => exact ⟨k + 1, _, HLTK.out, by go_num, rfl⟩
                    case measure => have := HLTK.out; simp [intOf]; omega
                · obtain rfl : k = row.length := by omega
                  have hltkI : ¬ (row.length : Int) < row.length := by omega
                  go_wp2
                  go_roundw
                  case rel => exact ⟨u + 1, _, HLTU.out, by go_num, rfl⟩
                  case measure => have := HLTU.out; simp [intOf]; omega
            · obtain rfl : u = g.length := by omega
              have hltuI : ¬ (g.length : Int) < g.length := by omega
              have hat := (atP_get (n := g.length) _ (0 :: ms) rfl HP.out.nodup (fun x hx => by rw [← HLEN.out]; exact HP.out.lt x hx)).1 0 0 rfl
              have c0 : W7.cell? ⟨W5.heap.size, 0, none⟩ = some (.int .i64 1) := cell_of_blk HAT.out (by simp [hat, encInt])
              have hg0 : (0 : Int) < g.length := by have := HGV.out.1; omega
              have hv8 := Lib.hid (hv7.out.below (below_drewN0 W7.heap.size W7 nq))
              have ch8 := hv8.out.cell
              have hb8 := Lib.hid ((HB0.out.trans (HB5.out.mono HB0.out.size)).trans ((below_drewN0 _ W7 nq).mono (by have := HB0.out.size; have := HB5.out.size; omega : w.heap.size ≤ W7.heap.size)))
              clear hat
              go_wp2_with (first
                | (go_at_call 28; go_must (refine (ans_reducible hv8.out.2).mono ?_; rintro e w8 ⟨rfl, hb9⟩; rw [HUP.out.2.2.1]; have hv9 := Lib.hid (hv8.out.below hb9); have ch9 := hv9.out.cell; have hb09 := Lib.hid (hb8.out.trans (hb9.mono hb8.out.size)); clear hb9 ch8))
                | (go_at_call 26; go_must (refine (ans_loops hv9.out.2).mono ?_; rintro e w10 ⟨lv, rfl, hlo, hb10⟩; rw [HUP.out.2.2.2] at hlo; obtain ⟨bvs, _, hlo2, _⟩ := hlo; obtain ⟨la, lc, rfl⟩ := ownsRow_form hlo2; have hb010 := Lib.hid (hb09.out.trans (hb10.mono hb09.out.size)); clear hb10 hlo2)))
              go_ret
              exact ⟨rfl, hb010.out⟩
end Go.Proofs.Ytpfinkcnklkclaa
