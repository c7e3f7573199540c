/-
  The walk of the law FlowRenamed.
-/
import Derived.Test.YtpfinkcnklkclaaRenm
set_option linter.unusedVariables false
set_option linter.unusedSimpArgs false
namespace Go.Proofs.Ytpfinkcnklkclaa
open Go.RowKit

theorem idomL_get {g : List (List Nat)} {x : Nat} (hx : x < g.length) : (idomL g)[x]? = some (idomAt g x) := by
  unfold idomL; rw [List.getElem?_map, List.getElem?_range hx]; rfl
/-- What the loops of the law ask. -/
theorem ren_facts {g h : List (List Nat)} {tf : Nat → Nat} (r : Ren g h tf) : (∀ x, x < g.length → ((idomL g)[x]? = some (-1) ∧ (idomL h)[tf x]? = some (-1)) ∨ ∃ c : Nat, c < g.length ∧ (idomL g)[x]? = some (c : Int) ∧ (idomL h)[tf x]? = some (tf c : Int)) ∧
    (∀ k x : Nat, (orderL g)[k]? = some x → x < g.length ∧ (orderL h)[k]? = some (tf x)) ∧ (orderL h).length = (orderL g).length := by
  refine ⟨fun x hx => ?_, fun k x hk => ?_, by rw [r.order]; simp⟩
  · have hl := r.lt x hx
    rw [idomL_get hx, idomL_get (by rw [r.len]; exact hl)]
    rcases r.idom hx with ⟨h1, h2⟩ | ⟨c, h1, h2, h3⟩
    · exact .inl ⟨by rw [h1], by rw [h2]⟩
    · exact .inr ⟨c, h1, by rw [h2], by rw [h3]⟩
  · obtain ⟨ns, hO⟩ := ordF r.vg
    refine ⟨hO.lt x (by rw [← hO.eq]; exact List.mem_of_getElem? hk), ?_⟩
    rw [r.order, List.getElem?_map, hk]; rfl

set_option maxRecDepth 100000 in
set_option maxHeartbeats 3200000 in
theorem law_renamed (w : World) (sv cv : Value) (l : List (Int × Int)) (h0 : PairsOf w w.heap.size sv l) (hi : ∀ p ∈ l, I64 p.1 ∧ I64 p.2) (hl : l.length ≤ 9223372036854775807)
    (cs : List Nat) (hc : SliceOf encU8 w w.heap.size cv cs) (hcb : ∀ c ∈ cs, c ≤ 255) (hcl : cs.length ≤ 9223372036854775807) :
    Calls Try.prog 10 #[sv, cv] w fun e w' => e = .returned (.bool true) ∧ Below w.heap.size w w' := by
  obtain ⟨sa, sc, hsv⟩ : ∃ a c, sv = .slice a l.length c := let ⟨a, c, e, _⟩ := h0; ⟨a, c, e⟩
  obtain ⟨ca, cc, hcv⟩ : ∃ a c, cv = .slice a cs.length c := let ⟨a, c, e, _⟩ := hc; ⟨a, c, e⟩
  have hgv := madeL_valid (l.take 60)
  have hgn := madeL_len (l.take 60)
  obtain ⟨g, hge⟩ : ∃ g, g = madeL (l.take 60) := ⟨_, rfl⟩
  rw [← hge] at hgv hgn
  have hmd : ∀ W, Below w.heap.size w W → Calls Try.prog 30 #[sv] W (RetGraph W g) := fun W hb => by
    rw [hge]; exact law_made W sv l ((h0.below hb).mono hb.size) hi hl
  have hsh : ∀ W, Below w.heap.size w W → Calls Try.prog 33 #[.int .i64 (g.length : Int), cv] W (RetTo g.length W) := fun W hb =>
    shuffled_any W g.length hgv.1 hgn cv cs ((hc.below hb).mono hb.size) hcb hcl
  have HMD := Lib.hid hmd
  have HSH := Lib.hid hsh
  have HGV := Lib.hid hgv
  clear hmd hsh h0 hi hge hgv hc hcb
  subst hsv
  subst hcv
  go_enter Try.func10, Try.ntmps10
  go_upto_region 5 with (first
    | (go_at_call 16; go_must (refine (sanity_any _).mono ?_; rintro e w1 ⟨rfl, hb1⟩))
    | (go_at_call 30; go_must (refine (HMD.out _ hb1).mono ?_; rintro e w2 ⟨bp, rfl, hbp, hor, hgw, hb2⟩; have hv2 := Var.mk' (graph_own hor hgw) (Below.refl _ _); have cv2 := hv2.cell; have hb02 : Below w.heap.size w _ := (hb1.trans (hb2.mono hb1.size)).alloc (by have := hb1.size; have := hb2.size; omega) (.cells #[.slice (some ⟨bp, 0, none⟩) g.length g.length] 24)))
    | (go_at_call 33; go_must (refine (HSH.out _ hb02).mono ?_; rintro e w3 ⟨lb, tl, rfl, hlb, htl, hB, hb3⟩; have HB := Lib.hid hB; have hv3 := hv2.below hb3; have cv3 := hv3.cell; have hb03 := hb02.trans (hb3.mono hb02.size); clear cv2 hb3 hB))
    | (go_at_call 34; go_must (refine (renamed_any _ _ g hv3.2 hgn lb tl htl HB.out).mono ?_; rintro e w4 ⟨bq, rfl, hbq, hor4, hgw4, hb4⟩; have htl4 := below_blk hb4 htl (lt_of_block htl); have hb04 := hb03.trans (hb4.mono hb03.size))))
  obtain ⟨h, hh⟩ : ∃ h, renG g tl = h := ⟨_, rfl⟩
  rw [hh] at hor4 hgw4 ⊢
  have hS := renG_ren HGV.out HB.out
  rw [hh] at hS
  have hv5 : Var (w4.alloc (.cells #[.slice (some ⟨bq, 0, none⟩) h.length h.length] 24)) w4.heap.size (.slice (some ⟨bq, 0, none⟩) h.length h.length) h := Var.mk' (graph_own hor4 hgw4) (Below.refl _ _)
  have hvg5 := (hv3.below hb4).below ((Below.refl _ _).alloc (Nat.le_refl _) (.cells #[.slice (some ⟨bq, 0, none⟩) h.length h.length] 24))
  have hb05 := hb04.alloc hb04.size (.cells #[.slice (some ⟨bq, 0, none⟩) h.length h.length] 24)
  have htl5 := alloc_blk (o := .cells #[.slice (some ⟨bq, 0, none⟩) h.length h.length] 24) htl4
  generalize hV : w4.alloc (.cells #[.slice (some ⟨bq, 0, none⟩) h.length h.length] 24) = V at *
  generalize hbx : w2.heap.size = bx at *
  generalize hby : w4.heap.size = by2 at *
  have HTL := Lib.hid htl5
  have HS := Lib.hid hS
  have HF := Lib.hid (ren_facts hS)
  have hgl := hS.len
  obtain ⟨DA, hDA⟩ : ∃ D, idomL g = D := ⟨_, rfl⟩
  obtain ⟨DB, hDB⟩ : ∃ D, idomL h = D := ⟨_, rfl⟩
  obtain ⟨LX, hLX⟩ : ∃ D, orderL g = D := ⟨_, rfl⟩
  obtain ⟨LY, hLY⟩ : ∃ D, orderL h = D := ⟨_, rfl⟩
  obtain ⟨q, hq⟩ : ∃ q, redF g = q := ⟨_, rfl⟩
  obtain ⟨nl, hnl⟩ : ∃ q, (loopsL g).length = q := ⟨_, rfl⟩
  have HL := Lib.hid (show idomL g = DA ∧ idomL h = DB ∧ orderL g = LX ∧ orderL h = LY ∧ True from ⟨hDA, hDB, hLX, hLY, trivial⟩)
  have HQ := Lib.hid (show redF g = q ∧ redF h = q ∧ (loopsL g).length = nl ∧ (loopsL h).length = nl from ⟨hq, hS.red.trans hq, hnl, hS.loops.trans hnl⟩)
  have hla : DA.length ≤ g.length ∧ g.length ≤ DA.length := by rw [← hDA]; simp [idomL]
  have hlb2 : DB.length ≤ g.length ∧ g.length ≤ DB.length := by rw [← hDB]; simp [idomL, hgl]
  have hlxy : LX.length ≤ LY.length ∧ LY.length ≤ LX.length := by have := (ren_facts hS).2.2; rw [hLX, hLY] at this; omega
  have hlx : LX.length ≤ 20 := by
    obtain ⟨ns, hO⟩ := ordF HGV.out
    have := (hO.is.nodes HGV.out).1
    rw [← hLX, hO.eq]; omega
  have HSZ := Lib.hid (lt_of_block htl5)
  clear hDA hDB hLX hLY hq hnl hV hbx hby hor hgw hb1 hb2 hv2 hor4 hgw4 hb4 htl htl4 hv3 cv3 hb02 hb03 hb04 hbp hlb hbq hh hS hgl htl5
  have cg := hvg5.cell
  have ch := hv5.cell
  have hvg0 := var_drew hvg5
  have hvh0 := var_drew hv5
  have hb00 := Below.refl V.heap.size V
  have hb000 := below_drew1 hb00
  have m0 : True := trivial
  have m1 : True := trivial
  go_region_held3 (fun w' => w'.cell? ⟨bx, 0, none⟩ = some (.slice (some ⟨bp, 0, none⟩) g.length g.length) ∧ w'.cell? ⟨by2, 0, none⟩ = some (.slice (some ⟨bq, 0, none⟩) h.length h.length) ∧ Var w' (bx) (.slice (some ⟨bp, 0, none⟩) g.length g.length) (g) ∧ Var w' (by2) (.slice (some ⟨bq, 0, none⟩) h.length h.length) (h) ∧ Below V.heap.size V w')
    (first
      | (go_split_ands; refine ⟨?_, ?_, ?_, ?_, ?_⟩ <;> assumption)
      | (go_split_ands; refine ⟨?_, ?_, var_drew ?_, var_drew ?_, below_drew1 ?_⟩ <;> assumption))
    (first
      | (go_at_call 23; have gate := m0; clear m0; (with_reducible refine (dom_of (xs := DA) (Var.gr (b := bx) (sv := .slice (some ⟨bp, 0, none⟩) g.length g.length) (g := g) (by assumption)) HL.out.1).mono ?_); rintro e wA ⟨uA, rfl, hoA, hbA⟩; obtain ⟨faA, fcA, rfl⟩ := ownsRow_form hoA; have v0A : Var wA (bx) (.slice (some ⟨bp, 0, none⟩) g.length g.length) (g) := Var.below (by assumption) hbA; have v1A : Var wA (by2) (.slice (some ⟨bq, 0, none⟩) h.length h.length) (h) := Var.below (by assumption) hbA; have c0A := v0A.cell; have c1A := v1A.cell; have hb0A : Below V.heap.size V wA := Below.trans (by assumption) (hbA.mono (Below.size (by assumption))); have hA : SliceOf encInt wA wA.heap.size (.slice faA (DA).length fcA) (DA) := sliceOf_own hoA (Nat.le_refl _); clear hoA)
      | (go_at_call 23; have gate := m1; clear m1; (with_reducible refine (dom_of (xs := DB) (Var.gr (b := by2) (sv := .slice (some ⟨bq, 0, none⟩) h.length h.length) (g := h) (by assumption)) HL.out.2.1).mono ?_); rintro e wB ⟨uB, rfl, hoB, hbB⟩; obtain ⟨faB, fcB, rfl⟩ := ownsRow_form hoB; have v0B : Var wB (bx) (.slice (some ⟨bp, 0, none⟩) g.length g.length) (g) := Var.below (by assumption) hbB; have v1B : Var wB (by2) (.slice (some ⟨bq, 0, none⟩) h.length h.length) (h) := Var.below (by assumption) hbB; have c0B := v0B.cell; have c1B := v1B.cell; have hb0B : Below V.heap.size V wB := Below.trans (by assumption) (hbB.mono (Below.size (by assumption))); have hA_B : SliceOf encInt wB wB.heap.size (.slice faA (DA).length fcA) (DA) := (by first | exact slice_next hA hbB | exact slice_next (slice_drew hA) hbB | exact slice_next (slice_drew (slice_drew hA)) hbB | exact slice_next (slice_drew (slice_drew (slice_drew hA))) hbB); have hB : SliceOf encInt wB wB.heap.size (.slice faB (DB).length fcB) (DB) := sliceOf_own hoB (Nat.le_refl _); clear hoB))
  go_upto_region 6 with fail
  have hvg6 := var_drew v0B
  have hvh6 := var_drew v1B
  have hb06 := below_drew1 hb0B
  have m0 : True := trivial
  have m1 : True := trivial
  go_region_held3 (fun w' => w'.cell? ⟨bx, 0, none⟩ = some (.slice (some ⟨bp, 0, none⟩) g.length g.length) ∧ w'.cell? ⟨by2, 0, none⟩ = some (.slice (some ⟨bq, 0, none⟩) h.length h.length) ∧ Var w' (bx) (.slice (some ⟨bp, 0, none⟩) g.length g.length) (g) ∧ Var w' (by2) (.slice (some ⟨bq, 0, none⟩) h.length h.length) (h) ∧ Below V.heap.size V w')
    (first
      | (go_split_ands; refine ⟨?_, ?_, ?_, ?_, ?_⟩ <;> assumption)
      | (go_split_ands; refine ⟨?_, ?_, var_drew ?_, var_drew ?_, below_drew1 ?_⟩ <;> assumption))
    (first
      | (go_at_call 21; have gate := m0; clear m0; (with_reducible refine (ord_of (xs := LX) (Var.gr (b := bx) (sv := .slice (some ⟨bp, 0, none⟩) g.length g.length) (g := g) (by assumption)) HL.out.2.2.1).mono ?_); rintro e wX ⟨uX, rfl, hoX, hbX⟩; obtain ⟨faX, fcX, rfl⟩ := ownsRow_form hoX; have v0X : Var wX (bx) (.slice (some ⟨bp, 0, none⟩) g.length g.length) (g) := Var.below (by assumption) hbX; have v1X : Var wX (by2) (.slice (some ⟨bq, 0, none⟩) h.length h.length) (h) := Var.below (by assumption) hbX; have c0X := v0X.cell; have c1X := v1X.cell; have hb0X : Below V.heap.size V wX := Below.trans (by assumption) (hbX.mono (Below.size (by assumption))); have hA_X : SliceOf encInt wX wX.heap.size (.slice faA (DA).length fcA) (DA) := (by first | exact slice_next hA_B hbX | exact slice_next (slice_drew hA_B) hbX | exact slice_next (slice_drew (slice_drew hA_B)) hbX | exact slice_next (slice_drew (slice_drew (slice_drew hA_B))) hbX); have hB_X : SliceOf encInt wX wX.heap.size (.slice faB (DB).length fcB) (DB) := (by first | exact slice_next hB hbX | exact slice_next (slice_drew hB) hbX | exact slice_next (slice_drew (slice_drew hB)) hbX | exact slice_next (slice_drew (slice_drew (slice_drew hB))) hbX); have hX : SliceOf encNat wX wX.heap.size (.slice faX (LX).length fcX) (LX) := sliceOf_own hoX (Nat.le_refl _); clear hoX)
      | (go_at_call 21; have gate := m1; clear m1; (with_reducible refine (ord_of (xs := LY) (Var.gr (b := by2) (sv := .slice (some ⟨bq, 0, none⟩) h.length h.length) (g := h) (by assumption)) HL.out.2.2.2.1).mono ?_); rintro e wY ⟨uY, rfl, hoY, hbY⟩; obtain ⟨faY, fcY, rfl⟩ := ownsRow_form hoY; have v0Y : Var wY (bx) (.slice (some ⟨bp, 0, none⟩) g.length g.length) (g) := Var.below (by assumption) hbY; have v1Y : Var wY (by2) (.slice (some ⟨bq, 0, none⟩) h.length h.length) (h) := Var.below (by assumption) hbY; have c0Y := v0Y.cell; have c1Y := v1Y.cell; have hb0Y : Below V.heap.size V wY := Below.trans (by assumption) (hbY.mono (Below.size (by assumption))); have hA_Y : SliceOf encInt wY wY.heap.size (.slice faA (DA).length fcA) (DA) := (by first | exact slice_next hA_X hbY | exact slice_next (slice_drew hA_X) hbY | exact slice_next (slice_drew (slice_drew hA_X)) hbY | exact slice_next (slice_drew (slice_drew (slice_drew hA_X))) hbY); have hB_Y : SliceOf encInt wY wY.heap.size (.slice faB (DB).length fcB) (DB) := (by first | exact slice_next hB_X hbY | exact slice_next (slice_drew hB_X) hbY | exact slice_next (slice_drew (slice_drew hB_X)) hbY | exact slice_next (slice_drew (slice_drew (slice_drew hB_X))) hbY); have hX_Y : SliceOf encNat wY wY.heap.size (.slice faX (LX).length fcX) (LX) := (by first | exact slice_next hX hbY | exact slice_next (slice_drew hX) hbY | exact slice_next (slice_drew (slice_drew hX)) hbY | exact slice_next (slice_drew (slice_drew (slice_drew hX))) hbY); have hY : SliceOf encNat wY wY.heap.size (.slice faY (LY).length fcY) (LY) := sliceOf_own hoY (Nat.le_refl _); clear hoY))
  clear hA_B hA hB hA_X hB_X hX v0A v0B v0X v1A v1B v1X c0A c0B c0X c1A c1B c1X hb0A hb0B hb0X hvg6 hvh6 hb06 hvg0 hvh0 hb00 hb000 cg ch hv5 hvg5
  have HY := Lib.hid (And.intro v0Y (And.intro v1Y (And.intro hb0Y (And.intro hA_Y (And.intro hB_Y (And.intro hX_Y hY))))))
  have hne1 : ((DA.length : Int) != (g.length : Int)) = false := by rw [bne_eq_false_iff_eq]; omega
  have hne2 : ((DB.length : Int) != (g.length : Int)) = false := by rw [bne_eq_false_iff_eq]; omega
  have hne3 : ((LX.length : Int) != (LY.length : Int)) = false := by rw [bne_eq_false_iff_eq]; omega
  clear hA_Y hB_Y hX_Y hY v0Y v1Y hb0Y c0Y c1Y
  generalize wY = W6 at *
  go_wp2
  go_loopw [56] (fun iv wx => ∃ n : Nat, n ≤ g.length ∧ iv = .int .i64 (n : Int) ∧ wx = W6) (fun iv _ => g.length - (intOf iv).toNat)
  case atStart => exact ⟨0, Nat.zero_le _, rfl, rfl⟩
  case round =>
    obtain ⟨n, hn, rfl, rfl⟩ := hrel
    by_cases hlt : n < g.length
    · have hltI : (n : Int) < DA.length := by omega
      have hltg : (n : Int) < g.length := by omega
      have HLT := Lib.hid hlt
      have htl6 := below_blk HY.out.2.2.1 HTL.out HSZ.out
      have hta := HB.out.get hlt
      have htal := HB.out.lt _ _ hta
      have hf := HF.out.1 n hlt
      rw [HL.out.1, HL.out.2.1] at hf
      obtain ⟨a1, k1, e1, _, hda⟩ := HY.out.2.2.2.1
      cases e1
      obtain ⟨a2, k2, e2, _, hdb⟩ := HY.out.2.2.2.2.1
      cases e2
      have ct : wr.cell? ⟨lb, n, none⟩ = some (.int .i64 ((toF tl n : Nat) : Int)) := cell_of_blk htl6 (by rw [List.getElem?_toArray, List.getElem?_map, hta]; rfl)
      generalize toF tl n = tn at *
      have htnI : (tn : Int) < DB.length := by omega
      rcases hf with ⟨f1, f2⟩ | ⟨c, hc, f1, f2⟩
      · obtain ⟨b1, o1, rfl, _, ca⟩ := hda n _ f1
        obtain ⟨b2, o2, rfl, _, cb⟩ := hdb tn _ f2
        simp only [encInt] at ca cb
        clear hda hdb f1 f2 hlt htl6 hta htal
        go_wp2
        go_roundw
        case rel => exact ⟨n + 1, HLT.out, by go_num, trivial⟩
        case measure => have := HLT.out; simp [intOf]; omega
      · obtain ⟨b1, o1, rfl, _, ca⟩ := hda n _ f1
        obtain ⟨b2, o2, rfl, _, cb⟩ := hdb tn _ f2
        have htc := HB.out.get hc
        have ct2 : wr.cell? ⟨lb, c, none⟩ = some (.int .i64 ((toF tl c : Nat) : Int)) := cell_of_blk htl6 (by rw [List.getElem?_toArray, List.getElem?_map, htc]; rfl)
        generalize toF tl c = tc at *
        simp only [encInt] at ca cb
        have hcI : (c : Int) < g.length := by omega
        clear hda hdb f1 f2 hlt htl6 hta htal htc
        go_wp2
        go_roundw
        case rel => exact ⟨n + 1, HLT.out, by go_num, trivial⟩
        case measure => have := HLT.out; simp [intOf]; omega
    · obtain rfl : n = g.length := by omega
      have hltI : ¬ (g.length : Int) < DA.length := by omega
      go_wp2
      go_loopw [92] (fun iv wx => ∃ k nq : Nat, k ≤ LX.length ∧ iv = .int .i64 (k : Int) ∧ wx = wr.drewN nq) (fun iv _ => LX.length - (intOf iv).toNat)
      case atStart => exact ⟨0, 0, Nat.zero_le _, rfl, rfl⟩
      case round =>
        obtain ⟨k, nq, hk, rfl, rfl⟩ := hrel
        by_cases hltk : k < LX.length
        · have hltkI : (k : Int) < LX.length := by omega
          have hltkY : (k : Int) < LY.length := by omega
          have HLTK := Lib.hid hltk
          obtain ⟨x, hx⟩ : ∃ x, LX[k]? = some x := ⟨_, List.getElem?_eq_getElem hltk⟩
          have hf := HF.out.2.1 k x (by rw [HL.out.2.2.1]; exact hx)
          rw [HL.out.2.2.2.1] at hf
          have hxg : x < g.length := hf.1
          have hxI : (x : Int) < g.length := by omega
          have htl6 := below_blk HY.out.2.2.1 HTL.out HSZ.out
          have hta := HB.out.get hf.1
          have ct : wr.cell? ⟨lb, x, none⟩ = some (.int .i64 ((toF tl x : Nat) : Int)) := cell_of_blk htl6 (by rw [List.getElem?_toArray, List.getElem?_map, hta]; rfl)
          obtain ⟨a1, k1, e1, _, hdx⟩ := HY.out.2.2.2.2.2.1
          cases e1
          obtain ⟨a2, k2, e2, _, hdy⟩ := HY.out.2.2.2.2.2.2
          cases e2
          obtain ⟨b1, o1, rfl, _, ca⟩ := hdx k _ hx
          obtain ⟨b2, o2, rfl, _, cb⟩ := hdy k _ hf.2
          generalize toF tl x = tx at *
          simp only [encNat] at ca cb
          have hd1 : decide ((x : Int) < 0) = false := by rw [decide_eq_false_iff_not]; omega
          have hd2 : decide ((g.length : Int) ≤ (x : Int)) = false := by rw [decide_eq_false_iff_not]; omega
          have hd3 : decide (g.length ≤ x) = false := by rw [decide_eq_false_iff_not]; omega
          have hd4 : ((tx : Int) != (tx : Int)) = false := by simp
          clear hdx hdy hx hf hltk htl6 hta hxg
          go_wp2
          go_quiet (fail)
          go_wp2
          go_roundw
          case rel => exact ⟨k + 1, _, HLTK.out, by go_num, rfl⟩
          case measure => have := HLTK.out; simp [intOf]; omega
        · obtain rfl : k = LX.length := by omega
          have hltkI : ¬ (LX.length : Int) < LX.length := by omega
          have v0 := HY.out.1.below (below_drewN0 wr.heap.size wr nq)
          have v1 := HY.out.2.1.below (below_drewN0 wr.heap.size wr nq)
          have hb0 : Below V.heap.size V (wr.drewN nq) := below_drewN HY.out.2.2.1
          have cg := v0.cell
          have ch := v1.cell
          generalize wr.drewN nq = W7 at *
          go_upto_region 24 with fail
          have v00 := var_drew v0
          have v10 := var_drew v1
          have hb00 := below_drew1 hb0
          have m0 : True := trivial
          have m1 : True := trivial
          have m2 : True := trivial
          have m3 : True := trivial
          go_region_held3 (fun w' => w'.cell? ⟨bx, 0, none⟩ = some (.slice (some ⟨bp, 0, none⟩) g.length g.length) ∧ w'.cell? ⟨by2, 0, none⟩ = some (.slice (some ⟨bq, 0, none⟩) h.length h.length) ∧ Var w' (bx) (.slice (some ⟨bp, 0, none⟩) g.length g.length) (g) ∧ Var w' (by2) (.slice (some ⟨bq, 0, none⟩) h.length h.length) (h) ∧ Below V.heap.size V w')
            (first
              | (go_split_ands; refine ⟨?_, ?_, ?_, ?_, ?_⟩ <;> assumption)
              | (go_split_ands; refine ⟨?_, ?_, var_drew ?_, var_drew ?_, below_drew1 ?_⟩ <;> assumption))
            (first
              | (go_at_call 28; have gate := m0; clear m0; (with_reducible refine (red_of (q := q) (Var.gr (b := bx) (sv := .slice (some ⟨bp, 0, none⟩) g.length g.length) (g := g) (by assumption)) HQ.out.1).mono ?_); rintro e wP ⟨rfl, hbP⟩; have v0P : Var wP (bx) (.slice (some ⟨bp, 0, none⟩) g.length g.length) (g) := Var.below (by assumption) hbP; have v1P : Var wP (by2) (.slice (some ⟨bq, 0, none⟩) h.length h.length) (h) := Var.below (by assumption) hbP; have c0P := v0P.cell; have c1P := v1P.cell; have hb0P : Below V.heap.size V wP := Below.trans (by assumption) (hbP.mono (Below.size (by assumption))))
              | (go_at_call 28; have gate := m1; clear m1; (with_reducible refine (red_of (q := q) (Var.gr (b := by2) (sv := .slice (some ⟨bq, 0, none⟩) h.length h.length) (g := h) (by assumption)) HQ.out.2.1).mono ?_); rintro e wQ ⟨rfl, hbQ⟩; have v0Q : Var wQ (bx) (.slice (some ⟨bp, 0, none⟩) g.length g.length) (g) := Var.below (by assumption) hbQ; have v1Q : Var wQ (by2) (.slice (some ⟨bq, 0, none⟩) h.length h.length) (h) := Var.below (by assumption) hbQ; have c0Q := v0Q.cell; have c1Q := v1Q.cell; have hb0Q : Below V.heap.size V wQ := Below.trans (by assumption) (hbQ.mono (Below.size (by assumption))))
              | (go_at_call 26; have gate := m2; clear m2; (with_reducible refine (looplen_of (n := nl) (Var.gr (b := bx) (sv := .slice (some ⟨bp, 0, none⟩) g.length g.length) (g := g) (by assumption)) HQ.out.2.2.1).mono ?_); rintro e wR ⟨uaR, ucR, rfl, hbR⟩; have v0R : Var wR (bx) (.slice (some ⟨bp, 0, none⟩) g.length g.length) (g) := Var.below (by assumption) hbR; have v1R : Var wR (by2) (.slice (some ⟨bq, 0, none⟩) h.length h.length) (h) := Var.below (by assumption) hbR; have c0R := v0R.cell; have c1R := v1R.cell; have hb0R : Below V.heap.size V wR := Below.trans (by assumption) (hbR.mono (Below.size (by assumption))))
              | (go_at_call 26; have gate := m3; clear m3; (with_reducible refine (looplen_of (n := nl) (Var.gr (b := by2) (sv := .slice (some ⟨bq, 0, none⟩) h.length h.length) (g := h) (by assumption)) HQ.out.2.2.2).mono ?_); rintro e wS ⟨uaS, ucS, rfl, hbS⟩; have v0S : Var wS (bx) (.slice (some ⟨bp, 0, none⟩) g.length g.length) (g) := Var.below (by assumption) hbS; have v1S : Var wS (by2) (.slice (some ⟨bq, 0, none⟩) h.length h.length) (h) := Var.below (by assumption) hbS; have c0S := v0S.cell; have c1S := v1S.cell; have hb0S : Below V.heap.size V wS := Below.trans (by assumption) (hbS.mono (Below.size (by assumption)))))
          all_goals go_wp2_with fail
          all_goals go_ret
          all_goals exact ⟨rfl, hb05.trans (hb0S.mono hb05.size)⟩
end Go.Proofs.Ytpfinkcnklkclaa
