/-
  The walk of the law FlowSubdivided.
-/
import Derived.Test.YtpfinkcnklkclaaHdr
set_option linter.unusedVariables false
set_option linter.unusedSimpArgs false
namespace Go.Proofs.Ytpfinkcnklkclaa
open Go.RowKit

theorem idomL_get2 {g : List (List Nat)} {x : Nat} (hx : x < g.length) : (idomL g)[x]? = some (idomAt g x) := by
  unfold idomL; rw [List.getElem?_map, List.getElem?_range hx]; rfl
theorem add_plain' (b o k : Nat) : (⟨b, o, none⟩ : Addr).add k = ⟨b, o + k, none⟩ := by
  unfold Addr.add; split
  · rename_i h; subst h; rfl
  · rfl

set_option maxRecDepth 100000 in
set_option maxHeartbeats 3200000 in
theorem law_subdivided (w : World) (sv : Value) (l : List (Int × Int)) (h0 : PairsOf w w.heap.size sv l) (hi : ∀ p ∈ l, I64 p.1 ∧ I64 p.2) (hl : l.length ≤ 9223372036854775807) (c0 c1 : Nat) (hc0 : c0 ≤ 255) (hc1 : c1 ≤ 255) :
    Calls Try.prog 13 #[sv, .agg #[.int .u8 (c0 : Int), .int .u8 (c1 : Int)]] w fun e w' => e = .returned (.bool true) ∧ Below w.heap.size w w' := by
  obtain ⟨sa, sc, hsv⟩ : ∃ a c, sv = .slice a l.length c := let ⟨a, c, e, _⟩ := h0; ⟨a, c, e⟩
  have hgv := madeL_valid (l.take 60)
  have hgn := madeL_len (l.take 60)
  obtain ⟨g, hge⟩ : ∃ g, g = madeL (l.take 60) := ⟨_, rfl⟩
  rw [← hge] at hgv hgn
  have hmd : ∀ W, Below w.heap.size w W → Calls Try.prog 30 #[sv] W (RetGraph W g) := fun W hb => by
    rw [hge]; exact law_made W sv l ((h0.below hb).mono hb.size) hi hl
  have HMD := Lib.hid hmd
  have HGV := Lib.hid hgv
  have hbk : (w.alloc (.cells #[.int .u8 (c0 : Int), .int .u8 (c1 : Int)] 49)).heap[w.heap.size]? = some (.cells #[.int .u8 (c0 : Int), .int .u8 (c1 : Int)] 49 (0, 0)) := new_at rfl
  have hbb : Below w.heap.size w (w.alloc (.cells #[.int .u8 (c0 : Int), .int .u8 (c1 : Int)] 49)) := (Below.refl _ w).alloc (Nat.le_refl _) _
  have HBK := Lib.hid (And.intro hbk hbb)
  clear hmd h0 hi hge hgv hbk hbb
  subst hsv
  obtain ⟨ii, hii, hzi0, hzi1, hzi2⟩ := info_parts Try.info_int
  obtain ⟨ij, hij, hzj0, hzj1, hzj2⟩ := info_parts Try.info_ints
  go_enter Try.func13, Try.ntmps13
  go_upto_region 3 with (first
    | (go_at_call 16; go_must (refine (sanity_any _).mono ?_; rintro e w1 ⟨rfl, hb1⟩; have hb01 := HBK.out.2.trans (hb1.mono HBK.out.2.size); have hk1 := below_blk hb1 HBK.out.1 (by simp)))
    | (go_at_call 30; go_must (refine (HMD.out _ hb01).mono ?_; rintro e w2 ⟨bp, rfl, hbp, hor, hgw, hb2⟩; have hk2 := below_blk hb2 hk1 (lt_of_block hk1); have hv2 := Var.mk' (graph_own hor hgw) (Below.refl _ _); have cv2 := hv2.cell; have hb02 : Below w.heap.size w _ := (hb01.trans (hb2.mono hb01.size)).alloc (by have := hb01.size; have := hb2.size; omega) (.cells #[.slice (some ⟨bp, 0, none⟩) g.length g.length] 24))))
  have HRL := Lib.hid hgw.2.2
  have hk3 := alloc_blk (o := .cells #[.slice (some ⟨bp, 0, none⟩) g.length g.length] 24) hk2
  generalize hV : w2.alloc (.cells #[.slice (some ⟨bp, 0, none⟩) g.length g.length] 24) = V at *
  generalize hbx : w2.heap.size = bx at *
  obtain ⟨vs, hvs, _, hbpl, hnews, hone, hrows⟩ := hv2.2.header
  have hnews' : ∀ (o : Obj) (j : Nat) (u : Value), vs[j]? = some u → (V.alloc o).cell? ((⟨bp, 0, none⟩ : Addr).add j) = some u := fun o j u hu => by
    have hadd : (⟨bp, 0, none⟩ : Addr).add j = ⟨bp, j, none⟩ := by unfold Addr.add; split <;> simp_all
    have := hnews j u hu
    rw [hadd] at this ⊢
    exact (((Below.refl _ V).alloc (Nat.le_refl _) o).cell (p := ⟨bp, j, none⟩) hbpl).trans this
  have HNEWS := Lib.hid (And.intro hvs (And.intro hnews' (And.intro hone hrows)))
  have HV2 := Lib.hid hv2
  have hbxl : bx < V.heap.size := lt_of_block hv2.1
  have hgp : 0 < g.length := HGV.out.1
  have cva : ∀ o, (V.alloc o).cell? ⟨bx, 0, none⟩ = some (.slice (some ⟨bp, 0, none⟩) g.length g.length) := fun o => (World.cell?_alloc_lt _ _ _ hbxl).trans cv2
  have ck0 : V.cell? ⟨w.heap.size, 0, none⟩ = some (.int .u8 (c0 : Int)) := cell_of_blk hk3 (by simp)
  have ck1 : V.cell? ⟨w.heap.size, 1, none⟩ = some (.int .u8 (c1 : Int)) := cell_of_blk hk3 (by simp)
  obtain ⟨u, hu⟩ : ∃ u, c0 % g.length = u := ⟨_, rfl⟩
  have hul : u < g.length := by rw [← hu]; exact Nat.mod_lt _ hgp
  have huI : (u : Int) < g.length := by omega
  have hut : (c0 : Int).tmod (g.length : Int) = (u : Int) := by rw [Int.tmod_eq_emod_of_nonneg (by omega), ← hu]; rfl
  have hz1 : (g.length : Int) ≠ 0 := by omega
  have hz2 : ((g.length : Int) == 0) = false := by rw [beq_eq_false_iff_ne]; omega
  obtain ⟨row, hrow⟩ : ∃ row, g[u]? = some row := ⟨_, List.getElem?_eq_getElem hul⟩
  have hsucc : succ g u = row := by unfold succ; rw [List.getD_eq_getElem?_getD, hrow]; rfl
  have hrl := HRL.out row (List.mem_of_getElem? hrow)
  obtain ⟨bg, og, a2, cap2, e1, hbg, hcr, hcap2, hx⟩ := HV2.out.2.rows.row hrow
  cases e1
  rw [Nat.zero_add] at hcr
  have HROW := Lib.hid (And.intro hrow (And.intro hsucc (And.intro hx hul)))
  have HB02 := Lib.hid hb02
  clear hV hbx hor hgw hb1 hb2 hv2 hbp hnews hone hrows hnews' hvs hk1 hk2 hk3 hb01 hu hul hrow hsucc hx hb02
  by_cases hr0 : row.length = 0
  · have ht0 : ((row.length : Int) == 0) = true := by rw [beq_iff_eq]; omega
    go_wp2
    go_ret
    exact ⟨rfl, HB02.out⟩
  · have ht0 : ((row.length : Int) == 0) = false := by rw [beq_eq_false_iff_ne]; omega
    obtain ⟨k, hk⟩ : ∃ k, c1 % row.length = k := ⟨_, rfl⟩
    have hkl : k < row.length := by rw [← hk]; exact Nat.mod_lt _ (by omega)
    have hkI : (k : Int) < row.length := by omega
    have hkt : (c1 : Int).tmod (row.length : Int) = (k : Int) := by rw [Int.tmod_eq_emod_of_nonneg (by omega), ← hk]; rfl
    have hz3 : (row.length : Int) ≠ 0 := by omega
    obtain ⟨v, hv⟩ : ∃ v, row[k]? = some v := ⟨_, List.getElem?_eq_getElem hkl⟩
    obtain ⟨b2, o2, rfl, hb2, csv⟩ := HROW.out.2.2.1 k v hv
    simp only [encNat] at csv
    have HKV := Lib.hid (And.intro hv hkl)
    clear hk hv hkl hr0
    go_wp2
    go_quiet (fail)
    have HNEWS' : Hid (vs.length = g.length ∧ (∀ (o : Obj) (j : Nat) (u : Value), vs[j]? = some u → ((V.drewN nq).alloc o).cell? ((⟨bp, 0, none⟩ : Addr).add j) = some u) ∧ (∀ u ∈ vs, u.oneCell' = true) ∧ ∀ (k : Nat) (v : Value) (row : List Nat), vs[k]? = some v → g[k]? = some row → SliceOf encNat (V.drewN nq) (V.drewN nq).heap.size v row) := HNEWS
    have HV2' := Lib.hid (HV2.out.below (below_drewN0 V.heap.size V nq))
    have HB02' : Hid (Below w.heap.size w (V.drewN nq)) := below_drewN HB02.out
    have cv2' : (V.drewN nq).cell? ⟨bx, 0, none⟩ = some (.slice (some ⟨bp, 0, none⟩) g.length g.length) := cv2
    have hbxl' : bx < (V.drewN nq).heap.size := hbxl
    have hbpl' : bp < (V.drewN nq).heap.size := hbpl
    have csv' : (V.drewN nq).cell? ⟨b2, o2 + k, none⟩ = some (.int .i64 (v : Int)) := csv
    have hb2' : b2 < (V.drewN nq).heap.size := hb2
    have hcr' : (V.drewN nq).cell? ⟨bp, u, none⟩ = some (.slice (some ⟨b2, o2, none⟩) row.length cap2) := hcr
    have HX' : Hid (∀ j x, row[j]? = some x → (V.drewN nq).cell? ⟨b2, o2 + j, none⟩ = some (encNat x)) := fun j x hj => by
      obtain ⟨b3, o3, e3, _, h3⟩ := HROW.out.2.2.1 j x hj
      simp only [Option.some.injEq, Addr.mk.injEq, and_true] at e3
      obtain ⟨rfl, rfl⟩ := e3
      exact h3
    have HR2 := Lib.hid (show g[u]? = some row ∧ succ g u = row ∧ u < g.length from ⟨HROW.out.1, HROW.out.2.1, HROW.out.2.2.2⟩)
    clear HNEWS HV2 HB02 cv2 hbxl hbpl csv hb2 hcr HROW ck0 ck1 cva
    generalize hV' : V.drewN nq = V' at *
    clear hV'
    have cva : ∀ o, (V'.alloc o).cell? ⟨bx, 0, none⟩ = some (.slice (some ⟨bp, 0, none⟩) g.length g.length) := fun o => (World.cell?_alloc_lt _ _ _ hbxl').trans cv2'
    go_upto_region 8 with (at_builtin; go_must (refine wpList_append_lies _ rfl (.tmp 43) (.tmp 45) 22 rfl V'.heap.size 29 ij (.slice none 0 0) 1 24 Try.underlying22 hij hzj0 hzj1 hzj2 rfl (by decide) (.slice (some ⟨V'.heap.size, 0, none⟩) 0 0) 0 [] rfl (own_empty (Nat.le_refl _)) ⟨bp, 0, none⟩ g.length g.length vs rfl (by rw [HNEWS'.out.1]; omega) (HNEWS'.out.2.1 _) HNEWS'.out.2.2.1 hgp (by unfold maxLen; omega) (by omega) (by simp) (V'.heap.size + 1) (by simp) ?_; intro gq capq w6 hown6 hgrow6 hat6 hlt6; have HO6 := Lib.hid (And.intro hown6 (And.intro hgrow6 hat6)); clear hown6 hgrow6 hat6))
    have hH0 : (w6.alloc (.cells #[.slice (some ⟨gq, 0, none⟩) g.length capq] 24)).ownsRow V'.heap.size 29 1 (.slice (some ⟨gq, 0, none⟩) g.length capq) g.length vs := by simpa using HO6.out.1.alloc _
    have hgh : (w6.alloc (.cells #[.slice (some ⟨gq, 0, none⟩) g.length capq] 24)).heap[w6.heap.size]? = some (.cells #[.slice (some ⟨gq, 0, none⟩) g.length capq] 24 (0, 0)) := new_at rfl
    have hb6 : Below V'.heap.size V' w6 := ((Below.refl _ V').alloc (Nat.le_refl _) _).grown HO6.out.2.1 (by simp) (fun k hk => by simp [Value.ownBlock] at hk; omega)
    have hbV0 := hb6.alloc hb6.size (.cells #[.slice (some ⟨gq, 0, none⟩) g.length capq] 24)
    have hby6 : V'.heap.size ≤ w6.heap.size := hb6.size
    generalize hby : w6.heap.size = by2 at *
    generalize hW0 : w6.alloc (.cells #[.slice (some ⟨gq, 0, none⟩) g.length capq] 24) = W0 at *
    clear hby hW0 hb6 HO6 hlt6
    have ch := cell_of_blk (i := 0) (v := .slice (some ⟨gq, 0, none⟩) g.length capq) hgh (by simp)
    have cg := (hbV0.cell (p := ⟨bx, 0, none⟩) hbxl').trans cv2'
    have hcr := (hbV0.cell (p := ⟨bp, u, none⟩) hbpl').trans hcr'
    have csv := (hbV0.cell (p := ⟨b2, o2 + k, none⟩) hb2').trans csv'
    have hgq := hH0.lt gq rfl
    have hne1 : gq ≠ by2 := fun e => ownsRow_block_ne hH0 hgh (.inr (by decide)) (by rw [e]; rfl)
    have hne2 : gq ≠ bx := by omega
    have hne3 : gq ≠ bp := by omega
    have hlby := lt_of_block hgh
    have hs0 := hbV0.size
    have hrp : 0 < row.length := by have := HKV.out.2; omega
    have hnr : ∀ (o : Obj) (j : Nat) (x : Value), (row.map encNat)[j]? = some x → (W0.alloc o).cell? ((⟨b2, o2, none⟩ : Addr).add j) = some x := fun o j x hj => by
      rw [List.getElem?_map] at hj
      obtain ⟨y, hy, rfl⟩ := Option.map_eq_some_iff.1 hj
      rw [add_plain']
      exact ((((Below.refl V'.heap.size V').trans hbV0).alloc hs0 o).cell (p := ⟨b2, o2 + j, none⟩) hb2').trans (HX'.out j y hy)
    have HNR := Lib.hid hnr
    have HH0 := Lib.hid (And.intro hH0 (And.intro hgh hbV0))
    have ch' : ∀ o, (W0.alloc o).cell? ⟨by2, 0, none⟩ = some (.slice (some ⟨gq, 0, none⟩) g.length capq) := fun o => (World.cell?_alloc_lt _ _ _ hlby).trans ch
    clear hnr hH0 hgh hbV0 cva
    go_wp2
    go_region_held3 (fun w' => w'.cell? ⟨by2, 0, none⟩ = some (.slice (some ⟨gq, 0, none⟩) g.length capq) ∧ w'.cell? ⟨bx, 0, none⟩ = some (.slice (some ⟨bp, 0, none⟩) g.length g.length) ∧ w'.cell? ⟨bp, u, none⟩ = some (.slice (some ⟨b2, o2, none⟩) row.length cap2))
      (first
        | go_keep
        | (go_split_ands; refine ⟨?_, ?_, ?_⟩ <;> assumption)
        | (go_split_ands; refine ⟨?_, ?_, ?_⟩; exact sk1 _; exact sk2 _; exact sk3 _))
      ((refine step_append_lies _ (by rfl) (.tmp 54) (.tmp 59) _ (by rfl) V'.heap.size 3 ii (.int .i64 0) 1 8 Try.underlying29 hii hzi0 hzi1 hzi2 rfl (by omega) (.slice (some ⟨W0.heap.size, 0, none⟩) 0 0) 0 [] (by rfl) ((own_empty (w := W0) (by omega)).drew) ⟨b2, o2, none⟩ row.length cap2 (row.map encNat) (by rfl) (by simp) (fun j x hj => HNR.out _ j x hj) (by intro x hx; obtain ⟨y, _, rfl⟩ := List.mem_map.1 hx; rfl) hrp (by unfold maxLen; omega) (by omega) (by simp; omega) (W0.heap.size + 1) (by simp) ?_; intro gg cap3 w7 hown7 hgrow7 hat7 hlt7; have hb07 : Below W0.heap.size W0 w7 := (Below.refl _ _).grown (grownBy_none (k := 1) hgrow7) (Nat.le_refl _) (by simp); have c71 := (hb07.cell (p := ⟨by2, 0, none⟩) hlby).trans ch; have c72 := (hb07.cell (p := ⟨bx, 0, none⟩) (by show bx < W0.heap.size; omega)).trans cg; have c73 := (hb07.cell (p := ⟨bp, u, none⟩) (by show bp < W0.heap.size; omega)).trans hcr; have hH7 := ownsRow_below HH0.out.1 hb07 (Nat.le_refl _); have hhc := hH7.cellAt u (by have := HR2.out.2.2; omega); obtain ⟨vu, hvu⟩ : ∃ vu, vs[u]? = some vu := ⟨_, List.getElem?_eq_getElem (by rw [HNEWS'.out.1]; exact HR2.out.2.2)⟩; rw [hvu] at hhc; have hhf := hH7.frozenAt u; have sk1 := fun v => (World.cell?_setCell_far w7 ⟨gq, u, none⟩ ⟨by2, 0, none⟩ v hne1).trans c71; have sk2 := fun v => (World.cell?_setCell_far w7 ⟨gq, u, none⟩ ⟨bx, 0, none⟩ v hne2).trans c72; have sk3 := fun v => (World.cell?_setCell_far w7 ⟨gq, u, none⟩ ⟨bp, u, none⟩ v hne3).trans c73))
    have hR7 : w7.ownsRow V'.heap.size 3 1 (.slice (some ⟨gg, 0, none⟩) row.length cap3) row.length (row.map encNat) := by simpa using hown7
    have hgg : gg ≠ gq := by
      rcases ownsRow_apart hR7 hH7 (by decide) with h | h
      · simp [Value.ownBlock] at h
      · simpa [Value.ownBlock] using h
    have hggV := hR7.lt gg rfl
    have hH8 := (hH7.stored u (.slice (some ⟨gg, 0, none⟩) row.length cap3)).1
    have hR8 := ownsRow_setCell_other hR7 (a := ⟨gq, u, none⟩) (by simp [Value.ownBlock]; exact hgg) (.slice (some ⟨gg, 0, none⟩) row.length cap3)
    have hbV8 : Below V'.heap.size V' (w7.setCell ⟨gq, u, none⟩ (.slice (some ⟨gg, 0, none⟩) row.length cap3)) := (HH0.out.2.2.trans (hb07.mono hs0)).setCell (by show V'.heap.size ≤ gq; exact hgq.1) _
    have hg8 : (w7.setCell ⟨gq, u, none⟩ (.slice (some ⟨gg, 0, none⟩) row.length cap3)).heap[by2]? = _ := set_blk (below_blk hb07 HH0.out.2.1 hlby) (by show by2 ≠ gq; exact Ne.symm hne1)
    have hggb : gg ≠ by2 := fun e => ownsRow_block_ne hR8 hg8 (.inr (by decide)) (by rw [e]; rfl)
    have hul := HR2.out.2.2
    have hvsl := HNEWS'.out.1
    have c82 := hH8.cellAt u (by omega)
    rw [List.getElem?_set_self (by omega)] at c82
    have c83 := hR8.cellAt k (by have := HKV.out.2; omega)
    rw [List.getElem?_map, HKV.out.1] at c83
    simp only [Option.map_some, encNat] at c83
    have f83 := hR8.frozenAt k
    have c81 := sk1 (.slice (some ⟨gg, 0, none⟩) row.length cap3)
    generalize hW8 : w7.setCell ⟨gq, u, none⟩ (.slice (some ⟨gg, 0, none⟩) row.length cap3) = W8 at *
    have hR9 : (W8.setCell ⟨gg, k, none⟩ (.int .i64 (g.length : Int))).ownsRow V'.heap.size 3 1 (.slice (some ⟨gg, 0, none⟩) row.length cap3) row.length ((row.set k g.length).map encNat) := by
      have := (hR8.stored k (.int .i64 (g.length : Int))).1
      simpa [List.map_set, encNat] using this
    have hH9 := ownsRow_setCell_other hH8 (a := ⟨gg, k, none⟩) (by simp [Value.ownBlock]; exact Ne.symm hgg) (.int .i64 (g.length : Int))
    have hbV9 : Below V'.heap.size V' (W8.setCell ⟨gg, k, none⟩ (.int .i64 (g.length : Int))) := hbV8.setCell (by show V'.heap.size ≤ gg; exact hggV.1) _
    have hg9 := set_blk (a := ⟨gg, k, none⟩) (u := .int .i64 (g.length : Int)) hg8 (by show by2 ≠ gg; exact Ne.symm hggb)
    have hrows9 : ∀ (y : Nat) (vy : Value) (ry : List Nat), (vs.set u (.slice (some ⟨gg, 0, none⟩) row.length cap3))[y]? = some vy → (g.set u (row.set k g.length))[y]? = some ry → RowAt V' (W8.setCell ⟨gg, k, none⟩ (.int .i64 (g.length : Int))) vy ry := fun y vy ry hy hry => by
      by_cases e : u = y
      · subst e
        rw [List.getElem?_set_self (by omega)] at hy
        rw [List.getElem?_set_self (by omega)] at hry
        cases hy; cases hry
        exact .inr (by rw [List.length_set]; exact hR9)
      · rw [List.getElem?_set_ne e] at hy hry
        exact .inl (HNEWS'.out.2.2.2 y vy ry hy hry)
    have HROWS9 := Lib.hid hrows9
    have hd9 : HdrMem V' (W8.setCell ⟨gg, k, none⟩ (.int .i64 (g.length : Int))) by2 (.slice (some ⟨gq, 0, none⟩) g.length capq) (g.set u (row.set k g.length)) := by
      refine ⟨⟨vs.set u (.slice (some ⟨gg, 0, none⟩) row.length cap3), by simp [hvsl], by rw [List.length_set]; exact hH9, hrows9⟩, hg9, hbV9, hby6⟩
    have HD9 := Lib.hid hd9
    have HOWN9 := Lib.hid hH9
    clear hW8 hR7 hH7 hH8 hR8 hR9 hH9 hbV8 hg8 hbV9 hg9 hown7 hgrow7 hat7 hlt7 hb07 c71 c72 c73 hhc hhf sk1 sk2 sk3 ch cg hcr csv ch' hd9 hvu hrows9
    go_upto_region 11 with fail
    generalize W8.setCell ⟨gg, k, none⟩ (.int .i64 (g.length : Int)) = W9 at *
    have ch := cell_of_blk (i := 0) (v := .slice (some ⟨gq, 0, none⟩) g.length capq) HD9.out.hg (by simp)
    have cg := (HD9.out.hb.cell (p := ⟨bx, 0, none⟩) hbxl').trans cv2'
    have hcr := (HD9.out.hb.cell (p := ⟨bp, u, none⟩) hbpl').trans hcr'
    have csv := (HD9.out.hb.cell (p := ⟨b2, o2 + k, none⟩) hb2').trans csv'
    have fh := free_of_blk (i := 0) HD9.out.hg
    have hl9 := lt_of_block HD9.out.hg
    have hs9 := HD9.out.hb.size
    have nbo := ownsRow_block_ne HOWN9.out HD9.out.hg (.inr (by decide))
    have ch2 : ∀ o, (W9.alloc o).cell? ⟨by2, 0, none⟩ = some (.slice (some ⟨gq, 0, none⟩) g.length capq) := fun o => (World.cell?_alloc_lt _ _ _ hl9).trans ch
    have ch3 : ∀ o o', ((W9.alloc o).alloc o').cell? ⟨by2, 0, none⟩ = some (.slice (some ⟨gq, 0, none⟩) g.length capq) := fun o o' => (World.cell?_alloc_lt _ _ _ (by simp; omega)).trans (ch2 o)
    have fh3 : ∀ o o', ((W9.alloc o).alloc o').frozen? ⟨by2, 0, none⟩ = false := fun o o' => free_of_blk (alloc_blk (alloc_blk HD9.out.hg))
    clear c81 c82 c83 f83
    have hpush : ∀ (ge cap4 : Nat) (wA : World), ((W9.alloc (.cells #[.int .i64 (v : Int)] 3)).alloc (.cells #[.slice (some ⟨W9.heap.size, 0, none⟩) 1 1] 29)).grownBy wA (Value.slice (some ⟨gq, 0, none⟩) g.length capq).ownBlock →
        wA.ownsRow V'.heap.size 29 1 (.slice (some ⟨ge, 0, none⟩) (g.length + 1) cap4) (g.length + 1) (vs.set u (.slice (some ⟨gg, 0, none⟩) row.length cap3) ++ [.slice (some ⟨W9.heap.size, 0, none⟩) 1 1]) →
        Hid (HdrMem V' (wA.setCell ⟨by2, 0, none⟩ (.slice (some ⟨ge, 0, none⟩) (g.length + 1) cap4)) by2 (.slice (some ⟨ge, 0, none⟩) (g.length + 1) cap4) (g.set u (row.set k g.length) ++ [[v]])) := fun ge cap4 wA hg ho => by
      have hl9' : (g.set u (row.set k g.length)).length = g.length := List.length_set
      exact HdrMem.push (wx := W9.alloc (.cells #[.int .i64 (v : Int)] 3)) (vs := vs.set u (.slice (some ⟨gg, 0, none⟩) row.length cap3)) (by simp [HNEWS'.out.1]) (by rw [hl9']; exact HOWN9.out.alloc _) (fun y vy ry hy hry => (HROWS9.out y vy ry hy hry).below ((Below.refl _ _).alloc (Nat.le_refl _) _)) (alloc_blk HD9.out.hg) (HD9.out.hb.alloc hs9 _) hby6 (lv := .slice (some ⟨W9.heap.size, 0, none⟩) 1 1) (.inr (by simpa [encNat] using own_one (x := v) hs9)) _ hg (by rw [hl9']; exact ho)
    have HPUSH := Lib.hid hpush
    clear hpush
    go_cut [] (fun wx => ∃ hv, Hid (HdrMem V' wx by2 hv (g.set u (row.set k g.length) ++ [[v]])))
    case first =>
      go_region_law (first | (refine step_append_lies _ (by rfl) (.tmp 71) (.tmp 81) _ (by rfl) V'.heap.size 29 ij (.slice none 0 0) 1 24 Try.underlying22 hij hzj0 hzj1 hzj2 rfl (by omega) (.slice (some ⟨gq, 0, none⟩) g.length capq) g.length (vs.set u (.slice (some ⟨gg, 0, none⟩) row.length cap3)) (by rfl) (((HOWN9.out.alloc _).alloc _).drew) ⟨W9.heap.size + 1, 0, none⟩ 1 1 [.slice (some ⟨W9.heap.size, 0, none⟩) 1 1] (by rfl) (by rfl) (World.news_of_block (cs := #[.slice (some ⟨W9.heap.size, 0, none⟩) 1 1]) (t := 29) (fr := (0, 0)) (new_at (by simp))) (by simp [Value.oneCell']) (by omega) (by unfold maxLen; omega) (by omega) (by simp; omega) (W9.heap.size + 1 + 1) (by simp) ?_; intro ge cap4 wA hownA hgrowA hatA hltA; have chA := (hgrowA.cell_far ⟨by2, 0, none⟩ (by simp; omega) (Ne.symm nbo)).trans (ch3 _ _); have fhA := (hgrowA.frozen_far ⟨by2, 0, none⟩ (by simp; omega) (Ne.symm nbo)).trans (fh3 _ _)))
      all_goals go_wp2_with fail
      all_goals go_meet
      all_goals exact ⟨_, HPUSH.out _ _ _ (grownBy_of_drew hgrowA) hownA⟩
    case rest =>
      obtain ⟨hv, HC⟩ := hcut
      have hvd : (succ g u).getD k 0 = v := by rw [HR2.out.2.1, List.getD_eq_getElem?_getD, HKV.out.1]; rfl
      have hS := subG_is HGV.out HR2.out.2.2 (k := k) (by rw [HR2.out.2.1]; exact HKV.out.2)
      rw [hvd] at hS
      have hsub : g.set u (row.set k g.length) ++ [[v]] = subG g u k := by unfold subG; rw [HR2.out.2.1, ← HR2.out.2.1, hvd]
      rw [hsub] at HC
      have hlen := hS.len
      have hrl9 : ∀ r ∈ subG g u k, r.length ≤ 2000000 := fun r hr => by
        rw [← hsub] at hr
        rcases List.mem_append.1 hr with hr | hr
        · rcases List.mem_or_eq_of_mem_set hr with hr | hr
          · exact HRL.out r hr
          · rw [hr, List.length_set]; exact hrl
        · simp at hr; subst hr; simp
      have hvar := HC.out.graph hS.vh (by omega) hrl9
      obtain ⟨vs2, _, hv2, _⟩ := HC.out.ex
      obtain ⟨ha, hc, rfl⟩ := ownsRow_form hv2
      have hvg := HV2'.out.below HC.out.hb
      have hb0 := HB02'.out.trans (HC.out.hb.mono HB02'.out.size)
      have hidom : ∀ x, x < g.length → ∃ a b : Int, (idomL g)[x]? = some a ∧ (idomL (subG g u k))[x]? = some b ∧ (a = b ∨ (a = (u : Int) ∧ b = (g.length : Int))) := fun x hx => by
        refine ⟨_, _, idomL_get2 hx, idomL_get2 (by omega), ?_⟩
        rcases hS.idom hx with h | h
        · exact .inl h.symm
        · exact .inr h
      have hfresh : ∃ (bf au : Int), (idomL (subG g u k))[g.length]? = some bf ∧ (idomL g)[u]? = some au ∧ ((bf = (u : Int) ∧ (u = 0 ∨ 0 ≤ au)) ∨ (bf = -1 ∧ u ≠ 0 ∧ ¬ 0 ≤ au)) := by
        refine ⟨_, _, idomL_get2 (by omega), idomL_get2 HR2.out.2.2, ?_⟩
        have hri := reached_iff HGV.out u
        rcases hS.fresh with ⟨h1, h2⟩ | ⟨h1, h2⟩
        · exact .inl ⟨h2, hri.1 h1⟩
        · refine .inr ⟨h2, fun e => h1 (hri.2 (.inl e)), fun e => h1 (hri.2 (.inr e))⟩
      have hred := hS.red
      have hloops := hS.loops
      generalize subG g u k = hh at *
      obtain ⟨DA, hDA⟩ : ∃ D, idomL g = D := ⟨_, rfl⟩
      obtain ⟨DB, hDB⟩ : ∃ D, idomL hh = D := ⟨_, rfl⟩
      obtain ⟨q, hq⟩ : ∃ q, redF g = q := ⟨_, rfl⟩
      obtain ⟨nl, hnl⟩ : ∃ q, (loopsL g).length = q := ⟨_, rfl⟩
      have HL := Lib.hid (show idomL g = DA ∧ idomL hh = DB from ⟨hDA, hDB⟩)
      have HQ := Lib.hid (show redF g = q ∧ redF hh = q ∧ (loopsL g).length = nl ∧ (loopsL hh).length = nl from ⟨hq, hred.trans hq, hnl, hloops.trans hnl⟩)
      have hla : DA.length ≤ g.length ∧ g.length ≤ DA.length := by rw [← hDA]; simp [idomL]
      have hlb : DB.length ≤ g.length + 1 ∧ g.length + 1 ≤ DB.length := by rw [← hDB]; simp [idomL]; omega
      rw [hDA, hDB] at hidom hfresh
      have HID := Lib.hid hidom
      have HFR := Lib.hid hfresh
      have hne1 : ((DA.length : Int) != (g.length : Int)) = false := by rw [bne_eq_false_iff_eq]; omega
      have hne2 : ((DB.length : Int) != (g.length : Int) + 1) = false := by rw [bne_eq_false_iff_eq]; omega
      have hu2 : (u : Int) < DA.length := by have := HR2.out.2.2; omega
      have hn2 : (g.length : Int) < DB.length := by omega
      have cg2 := hvg.cell
      have ch2 := hvar.cell
      have hvg0 := var_drew hvg
      have hvh0 := var_drew hvar
      have hb00 := below_drew1 hb0
      clear hvd hS hsub hlen hrl9 hv2 hidom hfresh hred hloops hDA hDB hq hnl HC HD9 HOWN9 HROWS9 ch cg hcr csv fh hl9 hs9 nbo ch3 fh3 HNEWS' HV2' HB02' HH0 HNR cv2' csv' hcr' hcap2 HX'
      go_upto_region 12 with fail
      have m0 : True := trivial
      have m1 : True := trivial
      go_region_held3 (fun w' => w'.cell? ⟨bx, 0, none⟩ = some (.slice (some ⟨bp, 0, none⟩) g.length g.length) ∧ w'.cell? ⟨by2, 0, none⟩ = some (.slice ha hh.length hc) ∧ Var w' (bx) (.slice (some ⟨bp, 0, none⟩) g.length g.length) (g) ∧ Var w' (by2) (.slice ha hh.length hc) (hh) ∧ Below w.heap.size w w')
        (first
          | (go_split_ands; refine ⟨?_, ?_, ?_, ?_, ?_⟩ <;> assumption)
          | (go_split_ands; refine ⟨?_, ?_, var_drew ?_, var_drew ?_, below_drew1 ?_⟩ <;> assumption))
        (first
          | (go_at_call 23; have gate := m0; clear m0; (with_reducible refine (dom_of (xs := DA) (Var.gr (b := bx) (sv := .slice (some ⟨bp, 0, none⟩) g.length g.length) (g := g) (by assumption)) HL.out.1).mono ?_); rintro e wA ⟨uA, rfl, hoA, hbA⟩; obtain ⟨faA, fcA, rfl⟩ := ownsRow_form hoA; have v0A : Var wA (bx) (.slice (some ⟨bp, 0, none⟩) g.length g.length) (g) := Var.below (by assumption) hbA; have v1A : Var wA (by2) (.slice ha hh.length hc) (hh) := Var.below (by assumption) hbA; have c0A := v0A.cell; have c1A := v1A.cell; have hb0A : Below w.heap.size w wA := Below.trans (by assumption) (hbA.mono (Below.size (by assumption))); have hA : SliceOf encInt wA wA.heap.size (.slice faA (DA).length fcA) (DA) := sliceOf_own hoA (Nat.le_refl _); clear hoA)
          | (go_at_call 23; have gate := m1; clear m1; (with_reducible refine (dom_of (xs := DB) (Var.gr (b := by2) (sv := .slice ha hh.length hc) (g := hh) (by assumption)) HL.out.2).mono ?_); rintro e wB ⟨uB, rfl, hoB, hbB⟩; obtain ⟨faB, fcB, rfl⟩ := ownsRow_form hoB; have v0B : Var wB (bx) (.slice (some ⟨bp, 0, none⟩) g.length g.length) (g) := Var.below (by assumption) hbB; have v1B : Var wB (by2) (.slice ha hh.length hc) (hh) := Var.below (by assumption) hbB; have c0B := v0B.cell; have c1B := v1B.cell; have hb0B : Below w.heap.size w wB := Below.trans (by assumption) (hbB.mono (Below.size (by assumption))); have hA_B : SliceOf encInt wB wB.heap.size (.slice faA (DA).length fcA) (DA) := (by first | exact slice_next hA hbB | exact slice_next (slice_drew hA) hbB | exact slice_next (slice_drew (slice_drew hA)) hbB | exact slice_next (slice_drew (slice_drew (slice_drew hA))) hbB); have hB : SliceOf encInt wB wB.heap.size (.slice faB (DB).length fcB) (DB) := sliceOf_own hoB (Nat.le_refl _); clear hoB))
      clear hA v0A v1A c0A c1A hb0A
      have HY := Lib.hid (And.intro v0B (And.intro v1B (And.intro hb0B (And.intro hA_B hB))))
      clear v0B v1B hb0B hA_B hB hvg0 hvh0 hb00 hvg hvar hb0 cg2 ch2
      generalize wB = W6 at *
      go_wp2
      go_loopw [101] (fun iv wx => ∃ x nq : Nat, x ≤ g.length ∧ iv = .int .i64 (x : Int) ∧ wx = W6.drewN nq) (fun iv _ => g.length - (intOf iv).toNat)
      case atStart => exact ⟨0, 0, Nat.zero_le _, rfl, rfl⟩
      case round =>
        obtain ⟨x, nq, hx, rfl, rfl⟩ := hrel
        obtain ⟨a1, k1, e1, _, hda⟩ := HY.out.2.2.2.1
        cases e1
        obtain ⟨a3, k3, e3, _, hdb⟩ := HY.out.2.2.2.2
        cases e3
        by_cases hltx : x < g.length
        · have hltxI : (x : Int) < DA.length := by omega
          have hltxB : (x : Int) < DB.length := by omega
          have HLTX := Lib.hid hltx
          obtain ⟨a, b, fa, fb, hab⟩ := HID.out x hltx
          obtain ⟨b3, o3, rfl, _, ca⟩ := hda x _ fa
          obtain ⟨b4, o4, rfl, _, cb⟩ := hdb x _ fb
          simp only [encInt] at ca cb
          clear hda hdb fa fb hltx
          by_cases hE : a = b
          · subst hE
            have ht1 : (a != a) = false := by simp
            clear hab
            go_wp2
            go_quiet (fail)
            go_wp2
            go_roundw
            case rel => exact ⟨x + 1, _, HLTX.out, by go_num, rfl⟩
            case measure => have := HLTX.out; simp [intOf]; omega
          · rcases hab with hab | ⟨rfl, rfl⟩
            · exact absurd hab hE
            · have ht1 : ((u : Int) != (g.length : Int)) = true := by rw [bne_iff_ne]; exact hE
              have ht2 : ((u : Int) != (u : Int)) = false := by simp
              have ht3 : ((g.length : Int) != (g.length : Int)) = false := by simp
              clear hE
              go_wp2
              go_quiet (fail)
              go_wp2
              go_roundw
              case rel => exact ⟨x + 1, _, HLTX.out, by go_num, rfl⟩
              case measure => have := HLTX.out; simp [intOf]; omega
        · obtain rfl : x = g.length := by omega
          have hltxI : ¬ (g.length : Int) < DA.length := by omega
          obtain ⟨bf, au, fb, fa, hcs⟩ := HFR.out
          obtain ⟨b3, o3, rfl, _, ca⟩ := hda u _ fa
          obtain ⟨b4, o4, rfl, _, cb⟩ := hdb g.length _ fb
          simp only [encInt] at ca cb
          clear hda hdb fa fb
          rcases hcs with ⟨rfl, hcs | hcs⟩ | ⟨rfl, hcs, hcs2⟩
          · have ht0 : ((u : Int) == 0) = true := by rw [beq_iff_eq]; omega
            have ht1 : ((u : Int) == (u : Int)) = true := by simp
            have ht2 : ((u : Int) == -1) = false := by rw [beq_eq_false_iff_ne]; omega
            clear hcs
            have v0 := HY.out.1.below (below_drewN0 W6.heap.size W6 nq)
            have v1 := HY.out.2.1.below (below_drewN0 W6.heap.size W6 nq)
            have hbW0 : Below w.heap.size w (W6.drewN nq) := below_drewN HY.out.2.2.1
            have cbw : (W6.drewN nq).cell? ⟨b4, o4 + g.length, none⟩ = _ := cb
            have hb4l := cellLt cbw
            have cg3 := v0.cell
            have ch4 := v1.cell
            go_upto_region 22 with fail
            generalize W6.drewN nq = W7 at *
            have v00 := var_drew v0
            have v10 := var_drew v1
            have hb0 := Below.refl W7.heap.size W7
            have hb00 := below_drew1 hb0
            have m0 : True := trivial
            have m1 : True := trivial
            have m2 : True := trivial
            have m3 : True := trivial
            go_region_held3 (fun w' => w'.cell? ⟨bx, 0, none⟩ = some (.slice (some ⟨bp, 0, none⟩) g.length g.length) ∧ w'.cell? ⟨by2, 0, none⟩ = some (.slice ha hh.length hc) ∧ Var w' (bx) (.slice (some ⟨bp, 0, none⟩) g.length g.length) (g) ∧ Var w' (by2) (.slice ha hh.length hc) (hh) ∧ Below W7.heap.size W7 w' ∧ w'.cell? ⟨b4, o4 + g.length, none⟩ = some (.int .i64 ((u : Int))))
              (first
                | (go_split_ands; refine ⟨?_, ?_, ?_, ?_, ?_, ?_⟩ <;> assumption)
                | (go_split_ands; refine ⟨?_, ?_, var_drew ?_, var_drew ?_, below_drew1 ?_, ?_⟩ <;> assumption))
              (first
                | (go_at_call 28; have gate := m0; clear m0; (with_reducible refine (red_of (q := q) (Var.gr (b := bx) (sv := .slice (some ⟨bp, 0, none⟩) g.length g.length) (g := g) (by assumption)) HQ.out.1).mono ?_); rintro e wP ⟨rfl, hbP⟩; have v0P : Var wP (bx) (.slice (some ⟨bp, 0, none⟩) g.length g.length) (g) := Var.below (by assumption) hbP; have v1P : Var wP (by2) (.slice ha hh.length hc) (hh) := Var.below (by assumption) hbP; have c0P := v0P.cell; have c1P := v1P.cell; have hb0P : Below W7.heap.size W7 wP := Below.trans (by assumption) (hbP.mono (Below.size (by assumption))); have cbwP := (hb0P.cell (p := ⟨b4, o4 + g.length, none⟩) hb4l).trans cbw)
                | (go_at_call 28; have gate := m1; clear m1; (with_reducible refine (red_of (q := q) (Var.gr (b := by2) (sv := .slice ha hh.length hc) (g := hh) (by assumption)) HQ.out.2.1).mono ?_); rintro e wQ ⟨rfl, hbQ⟩; have v0Q : Var wQ (bx) (.slice (some ⟨bp, 0, none⟩) g.length g.length) (g) := Var.below (by assumption) hbQ; have v1Q : Var wQ (by2) (.slice ha hh.length hc) (hh) := Var.below (by assumption) hbQ; have c0Q := v0Q.cell; have c1Q := v1Q.cell; have hb0Q : Below W7.heap.size W7 wQ := Below.trans (by assumption) (hbQ.mono (Below.size (by assumption))); have cbwQ := (hb0Q.cell (p := ⟨b4, o4 + g.length, none⟩) hb4l).trans cbw)
                | (go_at_call 26; have gate := m2; clear m2; (with_reducible refine (looplen_of (n := nl) (Var.gr (b := bx) (sv := .slice (some ⟨bp, 0, none⟩) g.length g.length) (g := g) (by assumption)) HQ.out.2.2.1).mono ?_); rintro e wR ⟨uaR, ucR, rfl, hbR⟩; have v0R : Var wR (bx) (.slice (some ⟨bp, 0, none⟩) g.length g.length) (g) := Var.below (by assumption) hbR; have v1R : Var wR (by2) (.slice ha hh.length hc) (hh) := Var.below (by assumption) hbR; have c0R := v0R.cell; have c1R := v1R.cell; have hb0R : Below W7.heap.size W7 wR := Below.trans (by assumption) (hbR.mono (Below.size (by assumption))); have cbwR := (hb0R.cell (p := ⟨b4, o4 + g.length, none⟩) hb4l).trans cbw)
                | (go_at_call 26; have gate := m3; clear m3; (with_reducible refine (looplen_of (n := nl) (Var.gr (b := by2) (sv := .slice ha hh.length hc) (g := hh) (by assumption)) HQ.out.2.2.2).mono ?_); rintro e wS ⟨uaS, ucS, rfl, hbS⟩; have v0S : Var wS (bx) (.slice (some ⟨bp, 0, none⟩) g.length g.length) (g) := Var.below (by assumption) hbS; have v1S : Var wS (by2) (.slice ha hh.length hc) (hh) := Var.below (by assumption) hbS; have c0S := v0S.cell; have c1S := v1S.cell; have hb0S : Below W7.heap.size W7 wS := Below.trans (by assumption) (hbS.mono (Below.size (by assumption))); have cbwS := (hb0S.cell (p := ⟨b4, o4 + g.length, none⟩) hb4l).trans cbw))
            all_goals go_wp2_with fail
            all_goals go_ret
            all_goals exact ⟨rfl, hbW0.trans (hb0S.mono hbW0.size)⟩
          · by_cases hu0 : u = 0
            · have ht0 : ((u : Int) == 0) = true := by rw [beq_iff_eq]; omega
              have ht1 : ((u : Int) == (u : Int)) = true := by simp
              have ht2 : ((u : Int) == -1) = false := by rw [beq_eq_false_iff_ne]; omega
              clear hcs hu0
              have v0 := HY.out.1.below (below_drewN0 W6.heap.size W6 nq)
              have v1 := HY.out.2.1.below (below_drewN0 W6.heap.size W6 nq)
              have hbW0 : Below w.heap.size w (W6.drewN nq) := below_drewN HY.out.2.2.1
              have cbw : (W6.drewN nq).cell? ⟨b4, o4 + g.length, none⟩ = _ := cb
              have hb4l := cellLt cbw
              have cg3 := v0.cell
              have ch4 := v1.cell
              go_upto_region 22 with fail
              generalize W6.drewN nq = W7 at *
              have v00 := var_drew v0
              have v10 := var_drew v1
              have hb0 := Below.refl W7.heap.size W7
              have hb00 := below_drew1 hb0
              have m0 : True := trivial
              have m1 : True := trivial
              have m2 : True := trivial
              have m3 : True := trivial
              go_region_held3 (fun w' => w'.cell? ⟨bx, 0, none⟩ = some (.slice (some ⟨bp, 0, none⟩) g.length g.length) ∧ w'.cell? ⟨by2, 0, none⟩ = some (.slice ha hh.length hc) ∧ Var w' (bx) (.slice (some ⟨bp, 0, none⟩) g.length g.length) (g) ∧ Var w' (by2) (.slice ha hh.length hc) (hh) ∧ Below W7.heap.size W7 w' ∧ w'.cell? ⟨b4, o4 + g.length, none⟩ = some (.int .i64 ((u : Int))))
                (first
                  | (go_split_ands; refine ⟨?_, ?_, ?_, ?_, ?_, ?_⟩ <;> assumption)
                  | (go_split_ands; refine ⟨?_, ?_, var_drew ?_, var_drew ?_, below_drew1 ?_, ?_⟩ <;> assumption))
                (first
                  | (go_at_call 28; have gate := m0; clear m0; (with_reducible refine (red_of (q := q) (Var.gr (b := bx) (sv := .slice (some ⟨bp, 0, none⟩) g.length g.length) (g := g) (by assumption)) HQ.out.1).mono ?_); rintro e wP ⟨rfl, hbP⟩; have v0P : Var wP (bx) (.slice (some ⟨bp, 0, none⟩) g.length g.length) (g) := Var.below (by assumption) hbP; have v1P : Var wP (by2) (.slice ha hh.length hc) (hh) := Var.below (by assumption) hbP; have c0P := v0P.cell; have c1P := v1P.cell; have hb0P : Below W7.heap.size W7 wP := Below.trans (by assumption) (hbP.mono (Below.size (by assumption))); have cbwP := (hb0P.cell (p := ⟨b4, o4 + g.length, none⟩) hb4l).trans cbw)
                  | (go_at_call 28; have gate := m1; clear m1; (with_reducible refine (red_of (q := q) (Var.gr (b := by2) (sv := .slice ha hh.length hc) (g := hh) (by assumption)) HQ.out.2.1).mono ?_); rintro e wQ ⟨rfl, hbQ⟩; have v0Q : Var wQ (bx) (.slice (some ⟨bp, 0, none⟩) g.length g.length) (g) := Var.below (by assumption) hbQ; have v1Q : Var wQ (by2) (.slice ha hh.length hc) (hh) := Var.below (by assumption) hbQ; have c0Q := v0Q.cell; have c1Q := v1Q.cell; have hb0Q : Below W7.heap.size W7 wQ := Below.trans (by assumption) (hbQ.mono (Below.size (by assumption))); have cbwQ := (hb0Q.cell (p := ⟨b4, o4 + g.length, none⟩) hb4l).trans cbw)
                  | (go_at_call 26; have gate := m2; clear m2; (with_reducible refine (looplen_of (n := nl) (Var.gr (b := bx) (sv := .slice (some ⟨bp, 0, none⟩) g.length g.length) (g := g) (by assumption)) HQ.out.2.2.1).mono ?_); rintro e wR ⟨uaR, ucR, rfl, hbR⟩; have v0R : Var wR (bx) (.slice (some ⟨bp, 0, none⟩) g.length g.length) (g) := Var.below (by assumption) hbR; have v1R : Var wR (by2) (.slice ha hh.length hc) (hh) := Var.below (by assumption) hbR; have c0R := v0R.cell; have c1R := v1R.cell; have hb0R : Below W7.heap.size W7 wR := Below.trans (by assumption) (hbR.mono (Below.size (by assumption))); have cbwR := (hb0R.cell (p := ⟨b4, o4 + g.length, none⟩) hb4l).trans cbw)
                  | (go_at_call 26; have gate := m3; clear m3; (with_reducible refine (looplen_of (n := nl) (Var.gr (b := by2) (sv := .slice ha hh.length hc) (g := hh) (by assumption)) HQ.out.2.2.2).mono ?_); rintro e wS ⟨uaS, ucS, rfl, hbS⟩; have v0S : Var wS (bx) (.slice (some ⟨bp, 0, none⟩) g.length g.length) (g) := Var.below (by assumption) hbS; have v1S : Var wS (by2) (.slice ha hh.length hc) (hh) := Var.below (by assumption) hbS; have c0S := v0S.cell; have c1S := v1S.cell; have hb0S : Below W7.heap.size W7 wS := Below.trans (by assumption) (hbS.mono (Below.size (by assumption))); have cbwS := (hb0S.cell (p := ⟨b4, o4 + g.length, none⟩) hb4l).trans cbw))
              all_goals go_wp2_with fail
              all_goals go_ret
              all_goals exact ⟨rfl, hbW0.trans (hb0S.mono hbW0.size)⟩
            · have ht0 : ((u : Int) == 0) = false := by rw [beq_eq_false_iff_ne]; omega
              have ht1 : ((u : Int) == (u : Int)) = true := by simp
              have ht2 : ((u : Int) == -1) = false := by rw [beq_eq_false_iff_ne]; omega
              have ht3 : decide (0 ≤ au) = true := by rw [decide_eq_true_eq]; exact hcs
              clear hu0
              have v0 := HY.out.1.below (below_drewN0 W6.heap.size W6 nq)
              have v1 := HY.out.2.1.below (below_drewN0 W6.heap.size W6 nq)
              have hbW0 : Below w.heap.size w (W6.drewN nq) := below_drewN HY.out.2.2.1
              have cbw : (W6.drewN nq).cell? ⟨b4, o4 + g.length, none⟩ = _ := cb
              have hb4l := cellLt cbw
              have cg3 := v0.cell
              have ch4 := v1.cell
              go_upto_region 22 with fail
              generalize W6.drewN nq = W7 at *
              have v00 := var_drew v0
              have v10 := var_drew v1
              have hb0 := Below.refl W7.heap.size W7
              have hb00 := below_drew1 hb0
              have m0 : True := trivial
              have m1 : True := trivial
              have m2 : True := trivial
              have m3 : True := trivial
              go_region_held3 (fun w' => w'.cell? ⟨bx, 0, none⟩ = some (.slice (some ⟨bp, 0, none⟩) g.length g.length) ∧ w'.cell? ⟨by2, 0, none⟩ = some (.slice ha hh.length hc) ∧ Var w' (bx) (.slice (some ⟨bp, 0, none⟩) g.length g.length) (g) ∧ Var w' (by2) (.slice ha hh.length hc) (hh) ∧ Below W7.heap.size W7 w' ∧ w'.cell? ⟨b4, o4 + g.length, none⟩ = some (.int .i64 ((u : Int))))
                (first
                  | (go_split_ands; refine ⟨?_, ?_, ?_, ?_, ?_, ?_⟩ <;> assumption)
                  | (go_split_ands; refine ⟨?_, ?_, var_drew ?_, var_drew ?_, below_drew1 ?_, ?_⟩ <;> assumption))
                (first
                  | (go_at_call 28; have gate := m0; clear m0; (with_reducible refine (red_of (q := q) (Var.gr (b := bx) (sv := .slice (some ⟨bp, 0, none⟩) g.length g.length) (g := g) (by assumption)) HQ.out.1).mono ?_); rintro e wP ⟨rfl, hbP⟩; have v0P : Var wP (bx) (.slice (some ⟨bp, 0, none⟩) g.length g.length) (g) := Var.below (by assumption) hbP; have v1P : Var wP (by2) (.slice ha hh.length hc) (hh) := Var.below (by assumption) hbP; have c0P := v0P.cell; have c1P := v1P.cell; have hb0P : Below W7.heap.size W7 wP := Below.trans (by assumption) (hbP.mono (Below.size (by assumption))); have cbwP := (hb0P.cell (p := ⟨b4, o4 + g.length, none⟩) hb4l).trans cbw)
                  | (go_at_call 28; have gate := m1; clear m1; (with_reducible refine (red_of (q := q) (Var.gr (b := by2) (sv := .slice ha hh.length hc) (g := hh) (by assumption)) HQ.out.2.1).mono ?_); rintro e wQ ⟨rfl, hbQ⟩; have v0Q : Var wQ (bx) (.slice (some ⟨bp, 0, none⟩) g.length g.length) (g) := Var.below (by assumption) hbQ; have v1Q : Var wQ (by2) (.slice ha hh.length hc) (hh) := Var.below (by assumption) hbQ; have c0Q := v0Q.cell; have c1Q := v1Q.cell; have hb0Q : Below W7.heap.size W7 wQ := Below.trans (by assumption) (hbQ.mono (Below.size (by assumption))); have cbwQ := (hb0Q.cell (p := ⟨b4, o4 + g.length, none⟩) hb4l).trans cbw)
                  | (go_at_call 26; have gate := m2; clear m2; (with_reducible refine (looplen_of (n := nl) (Var.gr (b := bx) (sv := .slice (some ⟨bp, 0, none⟩) g.length g.length) (g := g) (by assumption)) HQ.out.2.2.1).mono ?_); rintro e wR ⟨uaR, ucR, rfl, hbR⟩; have v0R : Var wR (bx) (.slice (some ⟨bp, 0, none⟩) g.length g.length) (g) := Var.below (by assumption) hbR; have v1R : Var wR (by2) (.slice ha hh.length hc) (hh) := Var.below (by assumption) hbR; have c0R := v0R.cell; have c1R := v1R.cell; have hb0R : Below W7.heap.size W7 wR := Below.trans (by assumption) (hbR.mono (Below.size (by assumption))); have cbwR := (hb0R.cell (p := ⟨b4, o4 + g.length, none⟩) hb4l).trans cbw)
                  | (go_at_call 26; have gate := m3; clear m3; (with_reducible refine (looplen_of (n := nl) (Var.gr (b := by2) (sv := .slice ha hh.length hc) (g := hh) (by assumption)) HQ.out.2.2.2).mono ?_); rintro e wS ⟨uaS, ucS, rfl, hbS⟩; have v0S : Var wS (bx) (.slice (some ⟨bp, 0, none⟩) g.length g.length) (g) := Var.below (by assumption) hbS; have v1S : Var wS (by2) (.slice ha hh.length hc) (hh) := Var.below (by assumption) hbS; have c0S := v0S.cell; have c1S := v1S.cell; have hb0S : Below W7.heap.size W7 wS := Below.trans (by assumption) (hbS.mono (Below.size (by assumption))); have cbwS := (hb0S.cell (p := ⟨b4, o4 + g.length, none⟩) hb4l).trans cbw))
              all_goals go_wp2_with fail
              all_goals go_ret
              all_goals exact ⟨rfl, hbW0.trans (hb0S.mono hbW0.size)⟩
          · have ht0 : ((u : Int) == 0) = false := by rw [beq_eq_false_iff_ne]; omega
            have ht1 : ((-1 : Int) == (u : Int)) = false := by rw [beq_eq_false_iff_ne]; omega
            have ht3 : decide (0 ≤ au) = false := by rw [decide_eq_false_iff_not]; omega
            clear hcs
            have v0 := HY.out.1.below (below_drewN0 W6.heap.size W6 nq)
            have v1 := HY.out.2.1.below (below_drewN0 W6.heap.size W6 nq)
            have hbW0 : Below w.heap.size w (W6.drewN nq) := below_drewN HY.out.2.2.1
            have cbw : (W6.drewN nq).cell? ⟨b4, o4 + g.length, none⟩ = _ := cb
            have hb4l := cellLt cbw
            have cg3 := v0.cell
            have ch4 := v1.cell
            go_upto_region 22 with fail
            generalize W6.drewN nq = W7 at *
            have v00 := var_drew v0
            have v10 := var_drew v1
            have hb0 := Below.refl W7.heap.size W7
            have hb00 := below_drew1 hb0
            have m0 : True := trivial
            have m1 : True := trivial
            have m2 : True := trivial
            have m3 : True := trivial
            go_region_held3 (fun w' => w'.cell? ⟨bx, 0, none⟩ = some (.slice (some ⟨bp, 0, none⟩) g.length g.length) ∧ w'.cell? ⟨by2, 0, none⟩ = some (.slice ha hh.length hc) ∧ Var w' (bx) (.slice (some ⟨bp, 0, none⟩) g.length g.length) (g) ∧ Var w' (by2) (.slice ha hh.length hc) (hh) ∧ Below W7.heap.size W7 w' ∧ w'.cell? ⟨b4, o4 + g.length, none⟩ = some (.int .i64 (-1)))
              (first
                | (go_split_ands; refine ⟨?_, ?_, ?_, ?_, ?_, ?_⟩ <;> assumption)
                | (go_split_ands; refine ⟨?_, ?_, var_drew ?_, var_drew ?_, below_drew1 ?_, ?_⟩ <;> assumption))
              (first
                | (go_at_call 28; have gate := m0; clear m0; (with_reducible refine (red_of (q := q) (Var.gr (b := bx) (sv := .slice (some ⟨bp, 0, none⟩) g.length g.length) (g := g) (by assumption)) HQ.out.1).mono ?_); rintro e wP ⟨rfl, hbP⟩; have v0P : Var wP (bx) (.slice (some ⟨bp, 0, none⟩) g.length g.length) (g) := Var.below (by assumption) hbP; have v1P : Var wP (by2) (.slice ha hh.length hc) (hh) := Var.below (by assumption) hbP; have c0P := v0P.cell; have c1P := v1P.cell; have hb0P : Below W7.heap.size W7 wP := Below.trans (by assumption) (hbP.mono (Below.size (by assumption))); have cbwP := (hb0P.cell (p := ⟨b4, o4 + g.length, none⟩) hb4l).trans cbw)
                | (go_at_call 28; have gate := m1; clear m1; (with_reducible refine (red_of (q := q) (Var.gr (b := by2) (sv := .slice ha hh.length hc) (g := hh) (by assumption)) HQ.out.2.1).mono ?_); rintro e wQ ⟨rfl, hbQ⟩; have v0Q : Var wQ (bx) (.slice (some ⟨bp, 0, none⟩) g.length g.length) (g) := Var.below (by assumption) hbQ; have v1Q : Var wQ (by2) (.slice ha hh.length hc) (hh) := Var.below (by assumption) hbQ; have c0Q := v0Q.cell; have c1Q := v1Q.cell; have hb0Q : Below W7.heap.size W7 wQ := Below.trans (by assumption) (hbQ.mono (Below.size (by assumption))); have cbwQ := (hb0Q.cell (p := ⟨b4, o4 + g.length, none⟩) hb4l).trans cbw)
                | (go_at_call 26; have gate := m2; clear m2; (with_reducible refine (looplen_of (n := nl) (Var.gr (b := bx) (sv := .slice (some ⟨bp, 0, none⟩) g.length g.length) (g := g) (by assumption)) HQ.out.2.2.1).mono ?_); rintro e wR ⟨uaR, ucR, rfl, hbR⟩; have v0R : Var wR (bx) (.slice (some ⟨bp, 0, none⟩) g.length g.length) (g) := Var.below (by assumption) hbR; have v1R : Var wR (by2) (.slice ha hh.length hc) (hh) := Var.below (by assumption) hbR; have c0R := v0R.cell; have c1R := v1R.cell; have hb0R : Below W7.heap.size W7 wR := Below.trans (by assumption) (hbR.mono (Below.size (by assumption))); have cbwR := (hb0R.cell (p := ⟨b4, o4 + g.length, none⟩) hb4l).trans cbw)
                | (go_at_call 26; have gate := m3; clear m3; (with_reducible refine (looplen_of (n := nl) (Var.gr (b := by2) (sv := .slice ha hh.length hc) (g := hh) (by assumption)) HQ.out.2.2.2).mono ?_); rintro e wS ⟨uaS, ucS, rfl, hbS⟩; have v0S : Var wS (bx) (.slice (some ⟨bp, 0, none⟩) g.length g.length) (g) := Var.below (by assumption) hbS; have v1S : Var wS (by2) (.slice ha hh.length hc) (hh) := Var.below (by assumption) hbS; have c0S := v0S.cell; have c1S := v1S.cell; have hb0S : Below W7.heap.size W7 wS := Below.trans (by assumption) (hbS.mono (Below.size (by assumption))); have cbwS := (hb0S.cell (p := ⟨b4, o4 + g.length, none⟩) hb4l).trans cbw))
            all_goals go_wp2_with fail
            all_goals go_ret
            all_goals exact ⟨rfl, hbW0.trans (hb0S.mono hbW0.size)⟩
end Go.Proofs.Ytpfinkcnklkclaa
