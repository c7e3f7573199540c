/-
  The walk of the law FlowSwapped.
-/
import Derived.Test.YtpfinkcnklkclaaSwp0
set_option linter.unusedVariables false
set_option linter.unusedSimpArgs false
namespace Go.Proofs.Ytpfinkcnklkclaa
open Go.RowKit

set_option maxRecDepth 100000 in
set_option maxHeartbeats 3200000 in
theorem law_swapped (w : World) (sv : Value) (l : List (Int × Int)) (h : PairsOf w w.heap.size sv l) (hi : ∀ p ∈ l, I64 p.1 ∧ I64 p.2) (hl : l.length ≤ 9223372036854775807) :
    Calls Try.prog 14 #[sv] w fun e w' => e = .returned (.bool true) ∧ Below w.heap.size w w' := by
  obtain ⟨sa, sc, hsv⟩ : ∃ a c, sv = .slice a l.length c := let ⟨a, c, e, _⟩ := h; ⟨a, c, e⟩
  have hgv := madeL_valid (l.take 60)
  have hgn := madeL_len (l.take 60)
  obtain ⟨g, hge⟩ : ∃ g, g = madeL (l.take 60) := ⟨_, rfl⟩
  rw [← hge] at hgv hgn
  have hmd : ∀ W, Below w.heap.size w W → Calls Try.prog 30 #[sv] W (RetGraph W g) := fun W hb => by
    rw [hge]; exact law_made W sv l ((h.below hb).mono hb.size) hi hl
  have HMD := Lib.hid hmd
  have HGV := Lib.hid hgv
  have hmk := run_make_row' (P := Try.prog) 22 29 (.slice none 0 0) 24 Try.underlying22 Try.info_ints rfl .i64 .i64 g.length (by omega) (by omega)
  clear hmd h hi hge hgv
  subst hsv
  go_enter Try.func14, Try.ntmps14
  go_wp2_with (first
    | (go_at_call 16; go_must (refine (sanity_any _).mono ?_; rintro e w1 ⟨rfl, hb1⟩))
    | (go_at_call 30; go_must (refine (HMD.out _ hb1).mono ?_; rintro e w2 ⟨bp, rfl, hbp, hor, hgw, hb2⟩; have HRL := Lib.hid hgw.2.2; have hv2 := Var.mk' (graph_own hor hgw) (Below.refl _ _); have cv2 := hv2.cell; have hb02 : Below w.heap.size w _ := (hb1.trans (hb2.mono hb1.size)).alloc (by have := hb1.size; have := hb2.size; omega) (.cells #[.slice (some ⟨bp, 0, none⟩) g.length g.length] 24))))
  have HM0 := Lib.hid (GMem.start' (w2.alloc (.cells #[.slice (some ⟨bp, 0, none⟩) g.length g.length] 24)) (w2.heap.size + 1) (by simp) g.length 2000000)
  have hVs : (w2.alloc (.cells #[.slice (some ⟨bp, 0, none⟩) g.length g.length] 24)).heap.size = w2.heap.size + 1 := by simp
  generalize hbx : w2.heap.size = bx at *
  generalize hV : w2.alloc (.cells #[.slice (some ⟨bp, 0, none⟩) g.length g.length] 24) = V at *
  have HV2 := Lib.hid hv2
  have HVS := Lib.hid hVs
  have hbxV : bx < V.heap.size := by omega
  clear hbx hV hor hgw hb1 hb2 hv2 hVs hbp
  obtain ⟨ii, hii, hzi0, hzi1, hzi2⟩ := info_parts Try.info_int
  go_loopw [20] (fun uv wr => ∃ u : Nat, u ≤ g.length ∧ uv = .int .i64 (u : Int) ∧ Hid (GMem V wr (bx + 1) (bx + 1 + 1) g.length 2000000 (partG g.length id (revRow g) (fun y => (succ g y).length) u 0))) (fun uv _ => g.length - (intOf uv).toNat)
  case atStart => exact ⟨0, Nat.zero_le _, rfl, by rw [partG_start (revRow_zero g)]; exact HM0⟩
  case round =>
    obtain ⟨u, hu, rfl, HU⟩ := hrel
    have cgr := (HU.out.hb.cell (p := ⟨bx, 0, none⟩) hbxV).trans cv2
    by_cases hltu : u < g.length
    · have hltuI : (u : Int) < g.length := by omega
      have HLTU := Lib.hid hltu
      obtain ⟨row, hrow⟩ : ∃ row, g[u]? = some row := ⟨_, List.getElem?_eq_getElem hltu⟩
      have hsucc : succ g u = row := by unfold succ; rw [List.getD_eq_getElem?_getD, hrow]; rfl
      have hrl := HRL.out row (List.mem_of_getElem? hrow)
      obtain ⟨bg, og, a2, cap2, e1, hbg, hc1, hcap2, hx⟩ := HV2.out.2.rows.row hrow
      cases e1
      rw [Nat.zero_add] at hc1
      have hcr := (HU.out.hb.cell (p := ⟨bp, u, none⟩) hbg).trans hc1
      have HROW := Lib.hid (And.intro hrow hsucc)
      have HX := Lib.hid hx
      clear hrow hsucc hltu hc1 hbg hx
      go_wp2
      go_loopw [29] (fun kv wx => ∃ k : Nat, k ≤ row.length ∧ kv = .int .i64 (k : Int) ∧ Hid (GMem V wx (bx + 1) (bx + 1 + 1) g.length 2000000 (partG g.length id (revRow g) (fun y => (succ g y).length) u k))) (fun kv _ => row.length - (intOf kv).toNat)
      case atStart => exact ⟨0, Nat.zero_le _, rfl, HU⟩
      case round =>
        obtain ⟨k, hk, rfl, HK⟩ := hrel
        by_cases hltk : k < row.length
        · have hltkI : (k : Int) < row.length := by omega
          have HLTK := Lib.hid hltk
          obtain ⟨s, hsk⟩ : ∃ s, row[k]? = some s := ⟨_, List.getElem?_eq_getElem hltk⟩
          obtain ⟨b2, o2, rfl, hb2, cs1⟩ := HX.out k s hsk
          have cs2 := (HK.out.hb.cell (p := ⟨b2, o2 + k, none⟩) hb2).trans cs1
          simp only [encNat] at cs2
          have hus := revRow_succ (g := g) (y := u) (by rw [HROW.out.2]; exact hsk)
          have HUS := Lib.hid hus
          have hul := revRow_len g u k (by rw [HROW.out.2]; omega)
          clear hsk hus hltk cs1 hb2
          have hR := partG_at (fr := id) (row := revRow g) (len := fun y => (succ g y).length) (u := u) (k := k) HLTU.out rfl
          have hps : (partG g.length id (revRow g) (fun y => (succ g y).length) u k).set u ([s] ++ revRow g u k) = partG g.length id (revRow g) (fun y => (succ g y).length) u (k + 1) := by
            rw [← partG_set (fr := id) (u := u) HLTU.out rfl (fun y _ hy => hy) (k + 1), HUS.out]
          have HPS := Lib.hid hps
          clear hps
          generalize hRe : revRow g u k = ur at *
          have HRE := Lib.hid hRe
          obtain ⟨ap, capp, cp, hop, fp⟩ := HK.out.hr.get hR
          have lbg := lt_of_block HK.out.hg
          have lbp := HK.out.hr.bplt
          obtain ⟨cc, hcc⟩ := HK.out.hr.blk
          have nbg := ownsRow_block_ne hop HK.out.hg (.inr (by decide))
          have nbp := ownsRow_block_ne hop hcc (.inr (by decide))
          have chr : wr.cell? ⟨bx + 1 + 1, 0, none⟩ = some (.slice (some ⟨bx + 1, 0, none⟩) g.length g.length) := cell_of_blk HK.out.hg (by simp)
          have HR := Lib.hid (And.intro hR hop)
          have hszV := HK.out.hb.size
          clear hcc hR hop hRe
          have fp' : ∀ o, (wr.alloc o).frozen? ⟨bx + 1, u, none⟩ = false := fun o => (World.frozen?_of_block (w := wr) (Below.heap_alloc _ _ _ lbp)).trans fp
          have cp' : ∀ o, (wr.alloc o).cell? ⟨bx + 1, u, none⟩ = some (.slice ap ur.length capp) := fun o => (World.cell?_of_block (w := wr) (Below.heap_alloc _ _ _ lbp)).trans cp
          have chr' : ∀ o, (wr.alloc o).cell? ⟨bx + 1 + 1, 0, none⟩ = some (.slice (some ⟨bx + 1, 0, none⟩) g.length g.length) := fun o => (World.cell?_of_block (w := wr) (Below.heap_alloc _ _ _ lbg)).trans chr
          go_upto_region 10 with fail
          have hown1 := own_one (w := wr) (base := V.heap.size) (x := s) hszV
          have HOWN1 := Lib.hid hown1
          have HUL := Lib.hid hul
          have hule : ur.length ≤ k := by omega
          clear hown1 hul
          by_cases hk0 : k = 0
          · subst hk0
            have hur0 : ur = [] := List.eq_nil_of_length_eq_zero HUL.out
            subst hur0
            simp only [List.length_nil] at *
            go_region_law (first | (refine step_append_empty (by rfl) (.tmp 37) (.tmp 42) _ (by rfl) 3 ii Try.underlying29 hii ⟨wr.heap.size, 0, none⟩ 1 1 (by omega) ap capp (by rfl) (by rfl) ?_; have c23 := chr' (.cells #[.int .i64 (s : Int)] 3); have cp3 := cp' (.cells #[.int .i64 (s : Int)] 3); have fp3 := fp' (.cells #[.int .i64 (s : Int)] 3)))
            all_goals go_wp2_with fail
            all_goals go_roundw
            all_goals first
              | (have := HLTK.out; simp [intOf]; omega)
              | (refine ⟨0 + 1, HLTK.out, by go_num, ?_⟩
                 have hput := HK.out.put2 (w2 := (wr.alloc (.cells #[.int .i64 (s : Int)] 3)).drewN 1) (row' := [s] ++ []) (g := wr.heap.size) (cap' := 1) HR.out.1 cp ⟨rfl, rfl, rfl, by simp, fun b hb _ => Below.heap_alloc wr _ b hb⟩ (by simp) (by simpa [encNat] using own_drewN (k := 1) (HOWN1.out)) (Nat.le_refl _) (by simp)
                 rw [HPS.out] at hput
                 have e := setCell_alloc_comm (w := wr) (o := .cells #[.int .i64 (s : Int)] 3) (a := ⟨bx + 1, u, none⟩) (v := .slice (some ⟨wr.heap.size, 0, none⟩) 1 1) lbp
                 first
                   | exact Lib.hid hput
                   | (rw [← e]; exact Lib.hid hput))
          · obtain ⟨ga, cga, hga, hgb, hgl⟩ := HR.out.2.form (by have := HUL.out; omega)
            cases hga
            go_region_law (first | (refine step_append_lies _ (by rfl) (.tmp 37) (.tmp 42) _ (by rfl) V.heap.size 3 ii (.int .i64 0) 1 8 Try.underlying29 hii hzi0 hzi1 hzi2 rfl (by omega) (.slice (some ⟨wr.heap.size, 0, none⟩) 1 1) 1 [.int .i64 (s : Int)] (by rfl) ((HOWN1.out).drew) ⟨ga, 0, none⟩ ur.length capp (ur.map encNat) (by rfl) (by simp) (news_of_own ((HR.out.2.alloc _).drew)) (by intro u hu; obtain ⟨y, _, rfl⟩ := List.mem_map.1 hu; rfl) (by have := HUL.out; omega) (by unfold maxLen; omega) (by omega) (by simp; omega) (wr.heap.size + 1) (by simp) ?_; intro gg cap3 w3 hown3 hgrow hat hlt4; have c23 := (hgrow.cell_far ⟨bx + 1 + 1, 0, none⟩ (by simp; omega) (by simp [Value.ownBlock]; omega)).trans (chr' _); have cp3 := (hgrow.cell_far ⟨bx + 1, u, none⟩ (by simp; omega) (by simp [Value.ownBlock]; omega)).trans (cp' _); have fp3 := (hgrow.frozen_far ⟨bx + 1, u, none⟩ (by simp; omega) (by simp [Value.ownBlock]; omega)).trans (fp' _)))
            all_goals go_wp2_with fail
            all_goals go_roundw
            all_goals first
              | (have := HLTK.out; simp [intOf]; omega)
              | (refine ⟨k + 1, HLTK.out, by go_num, ?_⟩
                 have hgg : wr.heap.size ≤ gg := by
                   rcases hat with h | h
                   · simp [Value.ownBlock] at h; omega
                   · omega
                 have hput := HK.out.put2 (row' := [s] ++ ur) HR.out.1 cp (grownBy_none (k := 1) hgrow) (by have := hgrow.size; simp at this; omega) (by simpa [encNat, Nat.add_comm] using hown3) hgg (by simp; omega)
                 rw [HPS.out] at hput
                 have e : ([s] ++ ur).length = 1 + ur.length := by simp [Nat.add_comm]
                 rw [e] at hput
                 exact Lib.hid hput)
        · obtain rfl : k = row.length := by omega
          have hltkI : ¬ (row.length : Int) < row.length := by omega
          go_wp2
          go_roundw
          case rel =>
            refine ⟨u + 1, HLTU.out, by go_num, ?_⟩
            have := partG_next (n := g.length) (fr := id) (len := fun y => (succ g y).length) (u := u) (revRow_zero g)
            rw [← this]
            show Hid (GMem V wr (bx + 1) (bx + 1 + 1) g.length 2000000 (partG g.length id (revRow g) (fun y => (succ g y).length) u (succ g u).length))
            rw [HROW.out.2]; exact HK
          case measure => have := HLTU.out; simp [intOf]; omega
    · obtain rfl : u = g.length := by omega
      have hltuI : ¬ (g.length : Int) < g.length := by omega
      have hG := HU.out
      rw [partG_full (fr := id) (fun y hy => hy)] at hG
      have hfull : ((List.range g.length).map fun y => revRow g (id y) ((fun y => (succ g y).length) (id y))) = revG g := revG_full g
      rw [hfull] at hG
      have hS := revG_same HGV.out
      have hvar := hG.graph hS.vh (by omega) (Nat.le_refl _)
      have HS := Lib.hid hS
      have HB0 := Lib.hid (hb02.trans (hG.hb.mono hb02.size))
      have HVG := Lib.hid (HV2.out.below hG.hb)
      have HVH := Lib.hid hvar
      have HGN := Lib.hid hgn
      clear hG hfull hvar hS cgr cv2 HU hmk hgn
      generalize wr = W5 at *
      obtain ⟨q, hq⟩ : ∃ q, redF g = q := ⟨_, rfl⟩
      obtain ⟨no, hno⟩ : ∃ no, (orderL g).length = no := ⟨_, rfl⟩
      have HQ := Lib.hid (show redF g = q ∧ redF (revG g) = q ∧ (orderL g).length = no ∧ (orderL (revG g)).length = no from ⟨hq, HS.out.red.trans hq, hno, HS.out.orderLen.trans hno⟩)
      have HLN := Lib.hid (show (idomL g).length ≤ 2000000 ∧ (loopsL g).length ≤ 2000000 ∧ ∀ c ∈ loopsL g, c.2.length ≤ 2000000 from ⟨by simp [idomL]; have := HGN.out; omega, by have := loopsL_len g; have := HGN.out; omega, fun c hc => by have := loopsL_body g c hc; have := HGN.out; omega⟩)
      clear hq hno
      have hvg := HVG.out
      have hvh := HVH.out
      have hb0 := HB0.out
      have cg := hvg.cell
      have ch := hvh.cell
      go_upto_region 13 with fail
      have hvg0 := var_drew hvg
      have hvh0 := var_drew hvh
      have hb00 := below_drew1 hb0
      have m0 : True := trivial
      have m1 : True := trivial
      have m2 : True := trivial
      have m3 : True := trivial
      have m4 : True := trivial
      have m5 : True := trivial
      have m6 : True := trivial
      have m7 : True := trivial
      have m8 : True := trivial
      have m9 : True := trivial
      go_region_held3 (fun w' => w'.cell? ⟨bx, 0, none⟩ = some (.slice (some ⟨bp, 0, none⟩) g.length g.length) ∧ w'.cell? ⟨bx + 1 + 1, 0, none⟩ = some (.slice (some ⟨bx + 1, 0, none⟩) g.length g.length) ∧ Var w' (bx) (.slice (some ⟨bp, 0, none⟩) g.length g.length) (g) ∧ Var w' (bx + 1 + 1) (.slice (some ⟨bx + 1, 0, none⟩) g.length g.length) (revG g) ∧ Below w.heap.size w w')
        (first
          | (go_split_ands; refine ⟨?_, ?_, ?_, ?_, ?_⟩ <;> assumption)
          | (go_split_ands; refine ⟨?_, ?_, var_drew ?_, var_drew ?_, below_drew1 ?_⟩ <;> assumption))
        (first
          | (go_at_call 23; have gate := m0; clear m0; (with_reducible refine (dom_of (xs := idomL g) (Var.gr (b := bx) (sv := .slice (some ⟨bp, 0, none⟩) g.length g.length) (g := g) (by assumption)) rfl).mono ?_); rintro e wA ⟨uA, rfl, hoA, hbA⟩; have v0A : Var wA (bx) (.slice (some ⟨bp, 0, none⟩) g.length g.length) (g) := Var.below (by assumption) hbA; have v1A : Var wA (bx + 1 + 1) (.slice (some ⟨bx + 1, 0, none⟩) g.length g.length) (revG g) := Var.below (by assumption) hbA; have c0A := v0A.cell; have c1A := v1A.cell; have hb0A : Below w.heap.size w wA := Below.trans (by assumption) (hbA.mono (Below.size (by assumption))); have hA : SliceOf encInt wA wA.heap.size uA (idomL g) := sliceOf_own hoA (Nat.le_refl _); clear hoA)
          | (go_at_call 23; have gate := m1; clear m1; (with_reducible refine (dom_of (xs := idomL g) (Var.gr (b := bx + 1 + 1) (sv := .slice (some ⟨bx + 1, 0, none⟩) g.length g.length) (g := revG g) (by assumption)) HS.out.idom).mono ?_); rintro e wB ⟨uB, rfl, hoB, hbB⟩; have v0B : Var wB (bx) (.slice (some ⟨bp, 0, none⟩) g.length g.length) (g) := Var.below (by assumption) hbB; have v1B : Var wB (bx + 1 + 1) (.slice (some ⟨bx + 1, 0, none⟩) g.length g.length) (revG g) := Var.below (by assumption) hbB; have c0B := v0B.cell; have c1B := v1B.cell; have hb0B : Below w.heap.size w wB := Below.trans (by assumption) (hbB.mono (Below.size (by assumption))); have hA_B : SliceOf encInt wB wB.heap.size uA (idomL g) := (by first | exact slice_next hA hbB | exact slice_next (slice_drew hA) hbB | exact slice_next (slice_drew (slice_drew hA)) hbB | exact slice_next (slice_drew (slice_drew (slice_drew hA))) hbB); have hB : SliceOf encInt wB wB.heap.size uB (idomL g) := sliceOf_own hoB (Nat.le_refl _); clear hoB)
          | (go_at_call 20; have gate := m2; clear m2; (refine (ints_true (xs := idomL g) (ys := idomL g) (by repeat' (first | exact hA_B | refine slice_drew ?_)) (by repeat' (first | exact hB | refine slice_drew ?_)) HLN.out.1 rfl).mono ?_); rintro e wC ⟨rfl, hbC⟩; have v0C : Var wC (bx) (.slice (some ⟨bp, 0, none⟩) g.length g.length) (g) := Var.below (by assumption) hbC; have v1C : Var wC (bx + 1 + 1) (.slice (some ⟨bx + 1, 0, none⟩) g.length g.length) (revG g) := Var.below (by assumption) hbC; have c0C := v0C.cell; have c1C := v1C.cell; have hb0C : Below w.heap.size w wC := Below.trans (by assumption) (hbC.mono (Below.size (by assumption))))
          | (go_at_call 26; have gate := m3; clear m3; (with_reducible refine (loops_of (cs := loopsL g) (Var.gr (b := bx) (sv := .slice (some ⟨bp, 0, none⟩) g.length g.length) (g := g) (by assumption)) rfl).mono ?_); rintro e wD ⟨uD, rfl, hoD, hbD⟩; have v0D : Var wD (bx) (.slice (some ⟨bp, 0, none⟩) g.length g.length) (g) := Var.below (by assumption) hbD; have v1D : Var wD (bx + 1 + 1) (.slice (some ⟨bx + 1, 0, none⟩) g.length g.length) (revG g) := Var.below (by assumption) hbD; have c0D := v0D.cell; have c1D := v1D.cell; have hb0D : Below w.heap.size w wD := Below.trans (by assumption) (hbD.mono (Below.size (by assumption))); have hD : CycOf wD wD.heap.size uD (loopsL g) := hoD.cyc (Nat.le_refl _); clear hoD)
          | (go_at_call 26; have gate := m4; clear m4; (with_reducible refine (loops_of (cs := loopsL g) (Var.gr (b := bx + 1 + 1) (sv := .slice (some ⟨bx + 1, 0, none⟩) g.length g.length) (g := revG g) (by assumption)) HS.out.loops).mono ?_); rintro e wE ⟨uE, rfl, hoE, hbE⟩; have v0E : Var wE (bx) (.slice (some ⟨bp, 0, none⟩) g.length g.length) (g) := Var.below (by assumption) hbE; have v1E : Var wE (bx + 1 + 1) (.slice (some ⟨bx + 1, 0, none⟩) g.length g.length) (revG g) := Var.below (by assumption) hbE; have c0E := v0E.cell; have c1E := v1E.cell; have hb0E : Below w.heap.size w wE := Below.trans (by assumption) (hbE.mono (Below.size (by assumption))); have hD_E : CycOf wE wE.heap.size uD (loopsL g) := (by first | exact cyc_next hD hbE | exact cyc_next (cyc_drew2 hD) hbE | exact cyc_next (cyc_drew2 (cyc_drew2 hD)) hbE | exact cyc_next (cyc_drew2 (cyc_drew2 (cyc_drew2 hD))) hbE); have hE : CycOf wE wE.heap.size uE (loopsL g) := hoE.cyc (Nat.le_refl _); clear hoE)
          | (go_at_call 25; have gate := m5; clear m5; (refine (cycles_true (xs := loopsL g) (ys := loopsL g) (by repeat' (first | exact hD_E | refine cyc_drew2 ?_)) (by repeat' (first | exact hE | refine cyc_drew2 ?_)) HLN.out.2.1 HLN.out.2.2 rfl).mono ?_); rintro e wF ⟨rfl, hbF⟩; have v0F : Var wF (bx) (.slice (some ⟨bp, 0, none⟩) g.length g.length) (g) := Var.below (by assumption) hbF; have v1F : Var wF (bx + 1 + 1) (.slice (some ⟨bx + 1, 0, none⟩) g.length g.length) (revG g) := Var.below (by assumption) hbF; have c0F := v0F.cell; have c1F := v1F.cell; have hb0F : Below w.heap.size w wF := Below.trans (by assumption) (hbF.mono (Below.size (by assumption))))
          | (go_at_call 28; have gate := m6; clear m6; (with_reducible refine (red_of (q := q) (Var.gr (b := bx) (sv := .slice (some ⟨bp, 0, none⟩) g.length g.length) (g := g) (by assumption)) HQ.out.1).mono ?_); rintro e wG ⟨rfl, hbG⟩; have v0G : Var wG (bx) (.slice (some ⟨bp, 0, none⟩) g.length g.length) (g) := Var.below (by assumption) hbG; have v1G : Var wG (bx + 1 + 1) (.slice (some ⟨bx + 1, 0, none⟩) g.length g.length) (revG g) := Var.below (by assumption) hbG; have c0G := v0G.cell; have c1G := v1G.cell; have hb0G : Below w.heap.size w wG := Below.trans (by assumption) (hbG.mono (Below.size (by assumption))))
          | (go_at_call 28; have gate := m7; clear m7; (with_reducible refine (red_of (q := q) (Var.gr (b := bx + 1 + 1) (sv := .slice (some ⟨bx + 1, 0, none⟩) g.length g.length) (g := revG g) (by assumption)) HQ.out.2.1).mono ?_); rintro e wH ⟨rfl, hbH⟩; have v0H : Var wH (bx) (.slice (some ⟨bp, 0, none⟩) g.length g.length) (g) := Var.below (by assumption) hbH; have v1H : Var wH (bx + 1 + 1) (.slice (some ⟨bx + 1, 0, none⟩) g.length g.length) (revG g) := Var.below (by assumption) hbH; have c0H := v0H.cell; have c1H := v1H.cell; have hb0H : Below w.heap.size w wH := Below.trans (by assumption) (hbH.mono (Below.size (by assumption))))
          | (go_at_call 21; have gate := m8; clear m8; (with_reducible refine (ordlen_of (n := no) (Var.gr (b := bx) (sv := .slice (some ⟨bp, 0, none⟩) g.length g.length) (g := g) (by assumption)) HQ.out.2.2.1).mono ?_); rintro e wI ⟨uaI, ucI, rfl, hbI⟩; have v0I : Var wI (bx) (.slice (some ⟨bp, 0, none⟩) g.length g.length) (g) := Var.below (by assumption) hbI; have v1I : Var wI (bx + 1 + 1) (.slice (some ⟨bx + 1, 0, none⟩) g.length g.length) (revG g) := Var.below (by assumption) hbI; have c0I := v0I.cell; have c1I := v1I.cell; have hb0I : Below w.heap.size w wI := Below.trans (by assumption) (hbI.mono (Below.size (by assumption))))
          | (go_at_call 21; have gate := m9; clear m9; (with_reducible refine (ordlen_of (n := no) (Var.gr (b := bx + 1 + 1) (sv := .slice (some ⟨bx + 1, 0, none⟩) g.length g.length) (g := revG g) (by assumption)) HQ.out.2.2.2).mono ?_); rintro e wJ ⟨uaJ, ucJ, rfl, hbJ⟩; have v0J : Var wJ (bx) (.slice (some ⟨bp, 0, none⟩) g.length g.length) (g) := Var.below (by assumption) hbJ; have v1J : Var wJ (bx + 1 + 1) (.slice (some ⟨bx + 1, 0, none⟩) g.length g.length) (revG g) := Var.below (by assumption) hbJ; have c0J := v0J.cell; have c1J := v1J.cell; have hb0J : Below w.heap.size w wJ := Below.trans (by assumption) (hbJ.mono (Below.size (by assumption)))))
      all_goals go_wp2_with fail
      all_goals go_ret
      all_goals exact ⟨rfl, hb0J⟩
end Go.Proofs.Ytpfinkcnklkclaa
