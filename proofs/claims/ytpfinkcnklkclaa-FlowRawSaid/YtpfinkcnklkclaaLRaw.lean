/-
  The walk of the law FlowRaw.
-/
import Derived.Test.YtpfinkcnklkclaaRaw1
set_option linter.unusedVariables false
set_option linter.unusedSimpArgs false
namespace Go.Proofs.Ytpfinkcnklkclaa
open Go.RowKit

set_option maxRecDepth 100000 in
set_option maxHeartbeats 3200000 in
theorem law_raw (w : World) (sv : Value) (g : List (List Int)) (h : RowsOf encInt w w.heap.size sv g) (hgl : g.length ≤ 9223372036854775807) (hrl : ∀ row ∈ g, row.length ≤ 9223372036854775807) :
    Calls Try.prog 3 #[.agg #[sv]] w fun e w' => e = .returned (.bool true) ∧ Below w.heap.size w w' := by
  obtain ⟨a, cap, rfl, hcap⟩ := h.form
  have hb0 : Below w.heap.size w (w.alloc (.cells #[.slice a g.length cap] 24)) := (Below.refl _ w).alloc (Nat.le_refl _) _
  have hbk : (w.alloc (.cells #[.slice a g.length cap] 24)).heap[w.heap.size]? = some (.cells #[.slice a g.length cap] 24 (0, 0)) := new_at rfl
  have hr0 := (h.below hb0).mono hb0.size
  have HR0 := Lib.hid hr0
  have HRL := Lib.hid hrl
  have HB0 := Lib.hid hb0
  have hsz : w.heap.size < (w.alloc (.cells #[.slice a g.length cap] 24)).heap.size := by simp
  have HSZ := Lib.hid hsz
  clear h hrl hr0 hb0 hsz
  go_enter Try.func3, Try.ntmps3
  go_upto_region 2 with (go_at_call 16; go_must (refine (sanity_any _).mono ?_; rintro e w1 ⟨rfl, hb1⟩; have hk1 := below_blk hb1 hbk HSZ.out; have hr1 := (HR0.out.below hb1).mono hb1.size; have hb01 := HB0.out.trans (hb1.mono HB0.out.size)))
  have cg1 : w1.cell? ⟨w.heap.size, 0, none⟩ = some (.slice a g.length cap) := cell_of_blk hk1 (by simp)
  have HR1 := Lib.hid hr1
  have HB1 := Lib.hid hb01
  have HS1 := Lib.hid (lt_of_block hk1)
  have HK1 := Lib.hid hk1
  clear hbk hb1 hr1 hb01 hk1
  go_upto_region 3 with (go_at_call 17; go_must (refine (small_any HR1.out hgl HRL.out).mono ?_; rintro e w2 ⟨vs, rfl, hso, hb2⟩; obtain ⟨ga, gc, rfl⟩ : ∃ ga gc, vs = .slice ga (smallL g).length gc := (let ⟨_, _, h2, _⟩ := hso; ownsRow_form h2); have hk2 := below_blk hb2 HK1.out HS1.out; have cg2 : w2.cell? ⟨w.heap.size, 0, none⟩ = some (.slice a g.length cap) := cell_of_blk hk2 (by simp); have fg2 : w2.frozen? ⟨w.heap.size, 0, none⟩ = false := free_of_blk hk2; have HSM := Lib.hid (And.intro hso (And.intro hk2 (HB1.out.trans (hb2.mono HB1.out.size)))); clear hso hk2 hb2))
  have hsm := HSM.out.1.set (b := w.heap.size) (i := 0) HS1.out (.slice ga (smallL g).length gc)
  have hkw : (w2.setCell ⟨w.heap.size, 0, none⟩ (.slice ga (smallL g).length gc)).heap[w.heap.size]? = some (.cells #[.slice ga (smallL g).length gc] 24 (0, 0)) := by rw [heap_setCell_self HSM.out.2.1]; simp
  have hbw : Below w.heap.size w (w2.setCell ⟨w.heap.size, 0, none⟩ (.slice ga (smallL g).length gc)) := HSM.out.2.2.setCell (Nat.le_refl _) _
  have hany : AnyIn (w2.setCell ⟨w.heap.size, 0, none⟩ (.slice ga (smallL g).length gc)) (.slice ga (smallL g).length gc) (smallL g) := ⟨hsm.rows, by unfold smallL; rw [List.length_map, List.length_take]; omega, fun row hr => by
    unfold smallL at hr
    obtain ⟨r, _, rfl⟩ := List.mem_map.1 hr
    rw [List.length_take]; omega⟩
  have hvar : VarI (w2.setCell ⟨w.heap.size, 0, none⟩ (.slice ga (smallL g).length gc)) w.heap.size (.slice ga (smallL g).length gc) (smallL g) := ⟨hkw, hany⟩
  have hlens := any_lens hany.len
  generalize hbx : w.heap.size = bx at *
  generalize hgs : smallL g = gs at *
  generalize hW0 : w2.setCell ⟨bx, 0, none⟩ (.slice ga gs.length gc) = W0 at *
  clear hgs hW0
  obtain ⟨qv, hqv⟩ : ∃ q, okI gs = q := ⟨_, rfl⟩
  obtain ⟨xo, hxo⟩ : ∃ q, ordA gs = q := ⟨_, rfl⟩
  obtain ⟨xd, hxd⟩ : ∃ q, domA gs = q := ⟨_, rfl⟩
  obtain ⟨xl, hxl⟩ : ∃ q, loopA gs = q := ⟨_, rfl⟩
  obtain ⟨qr, hqr⟩ : ∃ q, redA gs = q := ⟨_, rfl⟩
  have HQ := Lib.hid (show okI gs = qv ∧ ordA gs = xo ∧ domA gs = xd ∧ loopA gs = xl ∧ redA gs = qr from ⟨hqv, hxo, hxd, hxl, hqr⟩)
  rw [hxo, hxd, hxl] at hlens
  have HLN := Lib.hid hlens
  have cg := hvar.cell
  have hv0 := varI_drew hvar
  have HBX := Lib.hid hbx
  rw [← hbx] at hbw
  have hb00 := below_drew1 hbw
  clear hqv hxo hxd hxl hqr hlens hany hsm hkw cg1 cg2 fg2 HSM HK1 HS1 HB1 HR1 HSZ HB0 HR0 hbx
  have m0 : True := trivial
  have m1 : True := trivial
  have m2 : True := trivial
  have m3 : True := trivial
  have m4 : True := trivial
  have m5 : True := trivial
  have m6 : True := trivial
  have m7 : True := trivial
  have m8 : True := trivial
  have m9 : True := trivial
  have m10 : True := trivial
  have m11 : True := trivial
  have m12 : True := trivial
  go_region_held3 (fun w' => w'.cell? ⟨bx, 0, none⟩ = some (.slice ga gs.length gc) ∧ VarI w' (bx) (.slice ga gs.length gc) (gs) ∧ Below w.heap.size w w')
    (first
      | (go_split_ands; refine ⟨?_, ?_, ?_⟩ <;> assumption)
      | (go_split_ands; refine ⟨?_, varI_drew ?_, below_drew1 ?_⟩ <;> assumption))
    (first
      | (go_at_call 18; have gate := m0; clear m0; (with_reducible refine (any_valid (q := qv) (VarI.gr (b := bx) (sv := .slice ga gs.length gc) (g := gs) (by assumption)) HQ.out.1).mono ?_); rintro e wA ⟨rfl, hbA⟩; have v0A : VarI wA (bx) (.slice ga gs.length gc) (gs) := VarI.below (by assumption) hbA; have c0A := v0A.cell; have hb0A : Below w.heap.size w wA := Below.trans (by assumption) (hbA.mono (Below.size (by assumption))))
      | (go_at_call 19; have gate := m1; clear m1; (with_reducible refine (any_ref_valid (q := qv) (VarI.gr (b := bx) (sv := .slice ga gs.length gc) (g := gs) (by assumption)) HQ.out.1).mono ?_); rintro e wB ⟨rfl, hbB⟩; have v0B : VarI wB (bx) (.slice ga gs.length gc) (gs) := VarI.below (by assumption) hbB; have c0B := v0B.cell; have hb0B : Below w.heap.size w wB := Below.trans (by assumption) (hbB.mono (Below.size (by assumption))))
      | (go_at_call 21; have gate := m2; clear m2; (with_reducible refine (any_order (xs := xo) (VarI.gr (b := bx) (sv := .slice ga gs.length gc) (g := gs) (by assumption)) HQ.out.2.1).mono ?_); rintro e wC ⟨uC, rfl, hoC, hbC⟩; have v0C : VarI wC (bx) (.slice ga gs.length gc) (gs) := VarI.below (by assumption) hbC; have c0C := v0C.cell; have hb0C : Below w.heap.size w wC := Below.trans (by assumption) (hbC.mono (Below.size (by assumption))); have hC : SliceOf encNat wC wC.heap.size uC (xo) := sliceOf_own hoC (Nat.le_refl _); clear hoC)
      | (go_at_call 22; have gate := m3; clear m3; (with_reducible refine (any_ref_order (xs := xo) (VarI.gr (b := bx) (sv := .slice ga gs.length gc) (g := gs) (by assumption)) HQ.out.2.1).mono ?_); rintro e wD ⟨uD, rfl, hoD, hbD⟩; have v0D : VarI wD (bx) (.slice ga gs.length gc) (gs) := VarI.below (by assumption) hbD; have c0D := v0D.cell; have hb0D : Below w.heap.size w wD := Below.trans (by assumption) (hbD.mono (Below.size (by assumption))); have hC_D : SliceOf encNat wD wD.heap.size uC (xo) := (by first | exact slice_next hC hbD | exact slice_next (slice_drew hC) hbD | exact slice_next (slice_drew (slice_drew hC)) hbD | exact slice_next (slice_drew (slice_drew (slice_drew hC))) hbD); have hD : SliceOf encNat wD wD.heap.size uD (xo) := sliceOf_own hoD (Nat.le_refl _); clear hoD)
      | (go_at_call 20; have gate := m4; clear m4; (refine (intsN_true (xs := xo) (ys := xo) (by repeat' (first | exact hC_D | refine slice_drew ?_)) (by repeat' (first | exact hD | refine slice_drew ?_)) HLN.out.1 rfl).mono ?_); rintro e wE ⟨rfl, hbE⟩; have v0E : VarI wE (bx) (.slice ga gs.length gc) (gs) := VarI.below (by assumption) hbE; have c0E := v0E.cell; have hb0E : Below w.heap.size w wE := Below.trans (by assumption) (hbE.mono (Below.size (by assumption))))
      | (go_at_call 23; have gate := m5; clear m5; (with_reducible refine (any_dominators (xs := xd) (VarI.gr (b := bx) (sv := .slice ga gs.length gc) (g := gs) (by assumption)) HQ.out.2.2.1).mono ?_); rintro e wF ⟨uF, rfl, hoF, hbF⟩; have v0F : VarI wF (bx) (.slice ga gs.length gc) (gs) := VarI.below (by assumption) hbF; have c0F := v0F.cell; have hb0F : Below w.heap.size w wF := Below.trans (by assumption) (hbF.mono (Below.size (by assumption))); have hF : SliceOf encInt wF wF.heap.size uF (xd) := sliceOf_own hoF (Nat.le_refl _); clear hoF)
      | (go_at_call 24; have gate := m6; clear m6; (with_reducible refine (any_ref_dominators (xs := xd) (VarI.gr (b := bx) (sv := .slice ga gs.length gc) (g := gs) (by assumption)) HQ.out.2.2.1).mono ?_); rintro e wG ⟨uG, rfl, hoG, hbG⟩; have v0G : VarI wG (bx) (.slice ga gs.length gc) (gs) := VarI.below (by assumption) hbG; have c0G := v0G.cell; have hb0G : Below w.heap.size w wG := Below.trans (by assumption) (hbG.mono (Below.size (by assumption))); have hF_G : SliceOf encInt wG wG.heap.size uF (xd) := (by first | exact slice_next hF hbG | exact slice_next (slice_drew hF) hbG | exact slice_next (slice_drew (slice_drew hF)) hbG | exact slice_next (slice_drew (slice_drew (slice_drew hF))) hbG); have hG : SliceOf encInt wG wG.heap.size uG (xd) := sliceOf_own hoG (Nat.le_refl _); clear hoG)
      | (go_at_call 20; have gate := m7; clear m7; (refine (ints_true (xs := xd) (ys := xd) (by repeat' (first | exact hF_G | refine slice_drew ?_)) (by repeat' (first | exact hG | refine slice_drew ?_)) HLN.out.2.1 rfl).mono ?_); rintro e wH ⟨rfl, hbH⟩; have v0H : VarI wH (bx) (.slice ga gs.length gc) (gs) := VarI.below (by assumption) hbH; have c0H := v0H.cell; have hb0H : Below w.heap.size w wH := Below.trans (by assumption) (hbH.mono (Below.size (by assumption))))
      | (go_at_call 26; have gate := m8; clear m8; (with_reducible refine (any_loops (cs := xl) (VarI.gr (b := bx) (sv := .slice ga gs.length gc) (g := gs) (by assumption)) HQ.out.2.2.2.1).mono ?_); rintro e wI ⟨uI, rfl, hoI, hbI⟩; have v0I : VarI wI (bx) (.slice ga gs.length gc) (gs) := VarI.below (by assumption) hbI; have c0I := v0I.cell; have hb0I : Below w.heap.size w wI := Below.trans (by assumption) (hbI.mono (Below.size (by assumption))); have hI : CycOf wI wI.heap.size uI (xl) := hoI.cyc (Nat.le_refl _); clear hoI)
      | (go_at_call 27; have gate := m9; clear m9; (with_reducible refine (any_ref_loops (cs := xl) (VarI.gr (b := bx) (sv := .slice ga gs.length gc) (g := gs) (by assumption)) HQ.out.2.2.2.1).mono ?_); rintro e wJ ⟨uJ, rfl, hoJ, hbJ⟩; have v0J : VarI wJ (bx) (.slice ga gs.length gc) (gs) := VarI.below (by assumption) hbJ; have c0J := v0J.cell; have hb0J : Below w.heap.size w wJ := Below.trans (by assumption) (hbJ.mono (Below.size (by assumption))); have hI_J : CycOf wJ wJ.heap.size uI (xl) := (by first | exact cyc_next hI hbJ | exact cyc_next (cyc_drew2 hI) hbJ | exact cyc_next (cyc_drew2 (cyc_drew2 hI)) hbJ | exact cyc_next (cyc_drew2 (cyc_drew2 (cyc_drew2 hI))) hbJ); have hJ : CycOf wJ wJ.heap.size uJ (xl) := hoJ.cyc (Nat.le_refl _); clear hoJ)
      | (go_at_call 25; have gate := m10; clear m10; (refine (cycles_true (xs := xl) (ys := xl) (by repeat' (first | exact hI_J | refine cyc_drew2 ?_)) (by repeat' (first | exact hJ | refine cyc_drew2 ?_)) HLN.out.2.2.1 HLN.out.2.2.2 rfl).mono ?_); rintro e wK ⟨rfl, hbK⟩; have v0K : VarI wK (bx) (.slice ga gs.length gc) (gs) := VarI.below (by assumption) hbK; have c0K := v0K.cell; have hb0K : Below w.heap.size w wK := Below.trans (by assumption) (hbK.mono (Below.size (by assumption))))
      | (go_at_call 28; have gate := m11; clear m11; (with_reducible refine (any_red (q := qr) (VarI.gr (b := bx) (sv := .slice ga gs.length gc) (g := gs) (by assumption)) HQ.out.2.2.2.2).mono ?_); rintro e wL ⟨rfl, hbL⟩; have v0L : VarI wL (bx) (.slice ga gs.length gc) (gs) := VarI.below (by assumption) hbL; have c0L := v0L.cell; have hb0L : Below w.heap.size w wL := Below.trans (by assumption) (hbL.mono (Below.size (by assumption))))
      | (go_at_call 29; have gate := m12; clear m12; (with_reducible refine (any_ref_red (q := qr) (VarI.gr (b := bx) (sv := .slice ga gs.length gc) (g := gs) (by assumption)) HQ.out.2.2.2.2).mono ?_); rintro e wM ⟨rfl, hbM⟩; have v0M : VarI wM (bx) (.slice ga gs.length gc) (gs) := VarI.below (by assumption) hbM; have c0M := v0M.cell; have hb0M : Below w.heap.size w wM := Below.trans (by assumption) (hbM.mono (Below.size (by assumption)))))
  all_goals go_wp2_with fail
  all_goals go_ret
  all_goals exact ⟨rfl, hb0M⟩
end Go.Proofs.Ytpfinkcnklkclaa
