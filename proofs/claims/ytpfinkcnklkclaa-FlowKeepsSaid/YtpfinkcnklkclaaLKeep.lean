/-
  The walk of the law FlowKeeps.
-/
import Derived.Test.YtpfinkcnklkclaaSwp0
set_option linter.unusedVariables false
set_option linter.unusedSimpArgs false
namespace Go.Proofs.Ytpfinkcnklkclaa
open Go.RowKit

/-- What the law holds on to: the graphs as they lay in V; the order from number k on; dominators and loops, from block S1 on. -/
structure KW (V wx : World) (S1 k : Nat) (ord : List Nat) (xs : List Int) (cs : List (Nat × List Nat)) (ov dv cv : Value) : Prop where
  hb : Below V.heap.size V wx
  o : ∃ ys, wx.ownsRow V.heap.size 3 1 ov ord.length ys ∧ ∀ j, k ≤ j → ys[j]? = (ord.map encNat)[j]?
  ob : ∀ b, ov.ownBlock = some b → b < S1
  d : wx.ownsRow S1 3 1 dv xs.length (xs.map encInt)
  c : OutMem S1 wx cv cs
  sz : S1 ≤ wx.heap.size
theorem ints_same {w : World} {B B' : Nat} {u v : Value} {row : List Nat} (hx : SliceOf encNat w B u row) (hy : SliceOf encNat w B' v row) (hb : row.length ≤ 2000000) :
    Calls Try.prog 20 #[u, v] w fun e w' => e = .returned (.bool true) ∧ ∃ n, w' = w.drewN n :=
  (ints_nat w B B' u v row row hx hy (by omega) (by omega)).mono fun e w' ⟨h1, h2⟩ => ⟨by rw [h1, decide_eq_true rfl], h2⟩
theorem KW.drewN {V wx : World} {S1 k n : Nat} {ord : List Nat} {xs : List Int} {cs : List (Nat × List Nat)} {ov dv cv : Value} (h : KW V wx S1 k ord xs cs ov dv cv) : KW V (wx.drewN n) S1 k ord xs cs ov dv cv :=
  ⟨below_drewN h.hb, h.o, h.ob, h.d, h.c, h.sz⟩
theorem OutMem.setLow {S : Nat} {W : World} {ov : Value} {cs : List (Nat × List Nat)} (h : OutMem S W ov cs) {b i : Nat} (hb : b < S) (x : Value) : OutMem S (W.setCell ⟨b, i, none⟩ x) ov cs := by
  obtain ⟨bvs, h1, h2, h3⟩ := h
  exact ⟨bvs, h1, ownsRow_setCell_below h2 hb x, fun k c bv hk hv => ownsRow_setCell_below (h3 k c bv hk hv) hb x⟩
/-- One number of the order is overwritten. -/
theorem KW.set {V wx : World} {S1 k g cap : Nat} {ord : List Nat} {xs : List Int} {cs : List (Nat × List Nat)} {dv cv : Value} (h : KW V wx S1 k ord xs cs (.slice (some ⟨g, 0, none⟩) ord.length cap) dv cv) (u : Value) :
    KW V (wx.setCell ⟨g, k, none⟩ u) S1 (k + 1) ord xs cs (.slice (some ⟨g, 0, none⟩) ord.length cap) dv cv := by
  obtain ⟨h1, ⟨ys, h2, h3⟩, h4, h5, h6, h7⟩ := h
  have hg := h4 g rfl
  have hgl := (h2.lt g rfl).1
  exact ⟨h1.setCell hgl _, ⟨ys.set k u, (h2.stored k u).1, fun j hj => by rw [List.getElem?_set_ne (by omega)]; exact h3 j (by omega)⟩, h4, ownsRow_setCell_below h5 hg u, h6.setLow hg u, by simpa using h7⟩

set_option maxRecDepth 100000 in
set_option maxHeartbeats 3200000 in
theorem law_keeps (w : World) (sv : Value) (l : List (Int × Int)) (h : PairsOf w w.heap.size sv l) (hi : ∀ p ∈ l, I64 p.1 ∧ I64 p.2) (hl : l.length ≤ 9223372036854775807) :
    Calls Try.prog 15 #[sv] w fun e w' => e = .returned (.bool true) ∧ Below w.heap.size w w' := by
  obtain ⟨sa, sc, hsv⟩ : ∃ a c, sv = .slice a l.length c := let ⟨a, c, e, _⟩ := h; ⟨a, c, e⟩
  have hgv := madeL_valid (l.take 60)
  have hgn := madeL_len (l.take 60)
  obtain ⟨g, hge⟩ : ∃ g, g = madeL (l.take 60) := ⟨_, rfl⟩
  rw [← hge] at hgv hgn
  have hmd : ∀ W, Below w.heap.size w W → Calls Try.prog 30 #[sv] W (RetGraph W g) := fun W hb => by
    rw [hge]; exact law_made W sv l ((h.below hb).mono hb.size) hi hl
  have HMD := Lib.hid hmd
  have HGV := Lib.hid hgv
  clear hmd h hi hge hgv
  subst hsv
  have m0 : True := trivial
  have m1 : True := trivial
  go_enter Try.func15, Try.ntmps15
  go_upto_region 3 with (first
    | (go_at_call 16; go_must (refine (sanity_any _).mono ?_; rintro e w1 ⟨rfl, hb1⟩))
    | (go_at_call 30; have gate := m0; clear m0; go_must (refine (HMD.out _ hb1).mono ?_; rintro e w2 ⟨bp, rfl, hbp, hor, hgw, hb2⟩; have hb12 := hb1.trans (hb2.mono hb1.size)))
    | (go_at_call 30; have gate := m1; clear m1; go_must (refine (HMD.out _ hb12).mono ?_; rintro e w3 ⟨bq, rfl, hbq, hor3, hgw3, hb3⟩)))
  have hVs : ((w3.alloc (.cells #[.slice (some ⟨bp, 0, none⟩) g.length g.length] 24)).alloc (.cells #[.slice (some ⟨bq, 0, none⟩) g.length g.length] 24)).heap.size = w3.heap.size + 2 := by simp
  have hvg : Var ((w3.alloc (.cells #[.slice (some ⟨bp, 0, none⟩) g.length g.length] 24)).alloc (.cells #[.slice (some ⟨bq, 0, none⟩) g.length g.length] 24)) w3.heap.size (.slice (some ⟨bp, 0, none⟩) g.length g.length) g :=
    (Var.mk' ((graph_own hor hgw).below hb3) (Below.refl _ _)).below ((Below.refl _ _).alloc (Nat.le_refl _) _)
  have hvh : Var ((w3.alloc (.cells #[.slice (some ⟨bp, 0, none⟩) g.length g.length] 24)).alloc (.cells #[.slice (some ⟨bq, 0, none⟩) g.length g.length] 24)) (w3.heap.size + 1) (.slice (some ⟨bq, 0, none⟩) g.length g.length) g := by
    have := Var.mk' (graph_own hor3 hgw3) ((Below.refl w3.heap.size w3).alloc (Nat.le_refl _) (.cells #[.slice (some ⟨bp, 0, none⟩) g.length g.length] 24))
    simpa using this
  have hbv : Below w.heap.size w ((w3.alloc (.cells #[.slice (some ⟨bp, 0, none⟩) g.length g.length] 24)).alloc (.cells #[.slice (some ⟨bq, 0, none⟩) g.length g.length] 24)) :=
    ((hb12.trans (hb3.mono hb12.size)).alloc (by have := hb12.size; have := hb3.size; omega) _).alloc (by have := hb12.size; have := hb3.size; simp; omega) _
  have HRL := Lib.hid hgw.2.2
  generalize hbx : w3.heap.size = bx at *
  generalize hV : (w3.alloc (.cells #[.slice (some ⟨bp, 0, none⟩) g.length g.length] 24)).alloc (.cells #[.slice (some ⟨bq, 0, none⟩) g.length g.length] 24) = V at *
  have HVG := Lib.hid hvg
  have HVH := Lib.hid hvh
  have HBV := Lib.hid hbv
  have HVS := Lib.hid hVs
  obtain ⟨ord, hord⟩ : ∃ ord, orderL g = ord := ⟨_, rfl⟩
  obtain ⟨q, hq⟩ : ∃ q, redF g = q := ⟨_, rfl⟩
  have HORD := Lib.hid (show redF g = q ∧ (orderL g).length = ord.length ∧ orderL g = ord from ⟨hq, by rw [hord], hord⟩)
  have HLT : Hid (∀ x ∈ ord, x < 20) := by
    obtain ⟨ns, hO⟩ := ordF HGV.out
    intro x hx
    rw [← hord, hO.eq] at hx
    have := hO.lt x hx; omega
  have holen : ord.length ≤ 20 := by
    obtain ⟨ns, hO⟩ := ordF HGV.out
    have := (hO.is.nodes HGV.out).1
    rw [← hord, hO.eq]; omega
  have HLN := Lib.hid (show (idomL g).length ≤ 2000000 ∧ (loopsL g).length ≤ 2000000 ∧ ∀ c ∈ loopsL g, c.2.length ≤ 2000000 from ⟨by simp [idomL]; omega, by have := loopsL_len g; omega, fun c hc => by have := loopsL_body g c hc; omega⟩)
  have HLN2 := Lib.hid (show ord.length ≤ 2000000 by omega)
  clear hbx hV hor hgw hor3 hgw3 hb2 hb3 hb1 hb12 hbp hbq hord hq hVs hbv
  have cg := hvg.cell
  have ch := hvh.cell
  have hbv0 := Below.refl V.heap.size V
  have hvg0 := var_drew hvg
  have hvh0 := var_drew hvh
  have hbv00 := below_drew1 hbv0
  have m0 : True := trivial
  have m1 : True := trivial
  have m2 : True := trivial
  have m3 : True := trivial
  go_region_held3 (fun w' => w'.cell? ⟨bx, 0, none⟩ = some (.slice (some ⟨bp, 0, none⟩) g.length g.length) ∧ w'.cell? ⟨bx + 1, 0, none⟩ = some (.slice (some ⟨bq, 0, none⟩) g.length g.length) ∧ Var w' bx (.slice (some ⟨bp, 0, none⟩) g.length g.length) g ∧ Var w' (bx + 1) (.slice (some ⟨bq, 0, none⟩) g.length g.length) g ∧ Below V.heap.size V w')
    (first
      | (go_split_ands; refine ⟨?_, ?_, ?_, ?_, ?_⟩ <;> assumption)
      | (go_split_ands; refine ⟨?_, ?_, var_drew ?_, var_drew ?_, below_drew1 ?_⟩ <;> assumption))
    (first
      | (go_at_call 21; have gate := m0; clear m0; (with_reducible refine (ord_of (xs := ord) (Var.gr (b := bx) (sv := .slice (some ⟨bp, 0, none⟩) g.length g.length) (g := g) (by assumption)) HORD.out.2.2).mono ?_); rintro e wA ⟨uA, rfl, hoA, hbA⟩; have vgA : Var wA (bx) (.slice (some ⟨bp, 0, none⟩) g.length g.length) (g) := Var.below (by assumption) hbA; have vhA : Var wA (bx + 1) (.slice (some ⟨bq, 0, none⟩) g.length g.length) (g) := Var.below (by assumption) hbA; have cgA := vgA.cell; have chA := vhA.cell; have hbvA : Below V.heap.size V wA := Below.trans (by assumption) (hbA.mono (Below.size (by assumption))); obtain ⟨oa, oc, rfl⟩ := ownsRow_form hoA; have hA : wA.ownsRow V.heap.size 3 1 (.slice oa ord.length oc) ord.length (ord.map encNat) := hoA; clear hoA)
      | (go_at_call 23; have gate := m1; clear m1; (with_reducible refine (dom_of (xs := idomL g) (Var.gr (b := bx) (sv := .slice (some ⟨bp, 0, none⟩) g.length g.length) (g := g) (by assumption)) rfl).mono ?_); rintro e wB ⟨uB, rfl, hoB, hbB⟩; have vgB : Var wB (bx) (.slice (some ⟨bp, 0, none⟩) g.length g.length) (g) := Var.below (by assumption) hbB; have vhB : Var wB (bx + 1) (.slice (some ⟨bq, 0, none⟩) g.length g.length) (g) := Var.below (by assumption) hbB; have cgB := vgB.cell; have chB := vhB.cell; have hbvB : Below V.heap.size V wB := Below.trans (by assumption) (hbB.mono (Below.size (by assumption))); have hB : wB.ownsRow wA.heap.size 3 1 uB (idomL g).length ((idomL g).map encInt) := hoB; have hA2 : wB.ownsRow V.heap.size 3 1 (.slice oa ord.length oc) ord.length (ord.map encNat) := (by first | exact ownsRow_below hA hbB (Nat.le_refl _) | exact ownsRow_below (own_drewN (k := 1) hA) hbB (Nat.le_refl _) | exact ownsRow_below (own_drewN (k := 2) hA) hbB (Nat.le_refl _)); have hsAB : wA.heap.size ≤ wB.heap.size := hbB.size; clear hoB)
      | (go_at_call 26; have gate := m2; clear m2; (with_reducible refine (loops_of (cs := loopsL g) (Var.gr (b := bx) (sv := .slice (some ⟨bp, 0, none⟩) g.length g.length) (g := g) (by assumption)) rfl).mono ?_); rintro e wC ⟨uC, rfl, hoC, hbC⟩; have vgC : Var wC (bx) (.slice (some ⟨bp, 0, none⟩) g.length g.length) (g) := Var.below (by assumption) hbC; have vhC : Var wC (bx + 1) (.slice (some ⟨bq, 0, none⟩) g.length g.length) (g) := Var.below (by assumption) hbC; have cgC := vgC.cell; have chC := vhC.cell; have hbvC : Below V.heap.size V wC := Below.trans (by assumption) (hbC.mono (Below.size (by assumption))); have hC : OutMem wB.heap.size wC uC (loopsL g) := hoC; have hA3 : wC.ownsRow V.heap.size 3 1 (.slice oa ord.length oc) ord.length (ord.map encNat) := (by first | exact ownsRow_below hA2 hbC (Nat.le_refl _) | exact ownsRow_below (own_drewN (k := 1) hA2) hbC (Nat.le_refl _) | exact ownsRow_below (own_drewN (k := 2) hA2) hbC (Nat.le_refl _)); have hB3 : wC.ownsRow wA.heap.size 3 1 uB (idomL g).length ((idomL g).map encInt) := (by first | exact ownsRow_below hB hbC (Nat.le_refl _) | exact ownsRow_below (own_drewN (k := 1) hB) hbC (Nat.le_refl _) | exact ownsRow_below (own_drewN (k := 2) hB) hbC (Nat.le_refl _)); have hsBC : wB.heap.size ≤ wC.heap.size := hbC.size; clear hoC)
      | (go_at_call 28; have gate := m3; clear m3; (with_reducible refine (red_of (q := q) (Var.gr (b := bx) (sv := .slice (some ⟨bp, 0, none⟩) g.length g.length) (g := g) (by assumption)) HORD.out.1).mono ?_); rintro e wD ⟨rfl, hbD⟩; have vgD : Var wD (bx) (.slice (some ⟨bp, 0, none⟩) g.length g.length) (g) := Var.below (by assumption) hbD; have vhD : Var wD (bx + 1) (.slice (some ⟨bq, 0, none⟩) g.length g.length) (g) := Var.below (by assumption) hbD; have cgD := vgD.cell; have chD := vhD.cell; have hbvD : Below V.heap.size V wD := Below.trans (by assumption) (hbD.mono (Below.size (by assumption))); have hA4 : wD.ownsRow V.heap.size 3 1 (.slice oa ord.length oc) ord.length (ord.map encNat) := (by first | exact ownsRow_below hA3 hbD (Nat.le_refl _) | exact ownsRow_below (own_drewN (k := 1) hA3) hbD (Nat.le_refl _) | exact ownsRow_below (own_drewN (k := 2) hA3) hbD (Nat.le_refl _)); have hB4 : wD.ownsRow wA.heap.size 3 1 uB (idomL g).length ((idomL g).map encInt) := (by first | exact ownsRow_below hB3 hbD (Nat.le_refl _) | exact ownsRow_below (own_drewN (k := 1) hB3) hbD (Nat.le_refl _) | exact ownsRow_below (own_drewN (k := 2) hB3) hbD (Nat.le_refl _)); have hC4 : OutMem wB.heap.size wD uC (loopsL g) := (by first | exact hC.below hbD (Nat.le_refl _) | exact OutMem.below (W := wC.drew) hC hbD (Nat.le_refl _)); have hsCD : wC.heap.size ≤ wD.heap.size := hbD.size))
  all_goals have hKW : Hid (KW V wD wA.heap.size 0 ord (idomL g) (loopsL g) (.slice oa ord.length oc) uB uC) := ⟨hbvD, ⟨_, hA4, fun j _ => rfl⟩, fun b hb => (hA.lt b hb).2, hB4, hC4.mono hsAB, by omega⟩
  all_goals clear hA hA2 hA3 hA4 hB hB3 hB4 hC hC4 vgA vgB vgC vgD vhA vhB vhC vhD cgA cgB cgC chA chB chC hbvA hbvB hbvC hbvD hbA hbB hbC hbD hvg hvh hvg0 hvh0 hbv0 hbv00 cg ch
  all_goals generalize wD = W5 at *
  all_goals generalize wA.heap.size = S1 at *
  go_wp2
  go_loopw [28] (fun uv wx => ∃ u : Nat, u ≤ g.length ∧ uv = .int .i64 (u : Int) ∧ Hid (KW V wx S1 0 ord (idomL g) (loopsL g) (.slice oa ord.length oc) uB uC)) (fun uv _ => g.length - (intOf uv).toNat)
  case atStart => exact ⟨0, Nat.zero_le _, rfl, hKW⟩
  case round =>
    obtain ⟨u, hu, rfl, HK⟩ := hrel
    have hvg := HVG.out.below HK.out.hb
    have hvh := HVH.out.below HK.out.hb
    have cg := hvg.cell
    have ch := hvh.cell
    by_cases hltu : u < g.length
    · have hltuI : (u : Int) < g.length := by omega
      have HLTU := Lib.hid hltu
      obtain ⟨row, hrow⟩ : ∃ row, g[u]? = some row := ⟨_, List.getElem?_eq_getElem hltu⟩
      have hrl := HRL.out row (List.mem_of_getElem? hrow)
      obtain ⟨bg, og, a2, cap2, e1, hbg, hc1, hcap2, hx⟩ := hvg.2.rows.row hrow
      cases e1
      rw [Nat.zero_add] at hc1
      obtain ⟨bh, oh, a3, cap3, e1, hbh, hc2, hcap3, hy⟩ := hvh.2.rows.row hrow
      cases e1
      rw [Nat.zero_add] at hc2
      have hsg : SliceOf encNat wr wr.heap.size (.slice a2 row.length cap2) row := ⟨_, _, rfl, hcap2, hx⟩
      have hsh : SliceOf encNat wr wr.heap.size (.slice a3 row.length cap3) row := ⟨_, _, rfl, hcap3, hy⟩
      clear hrow hltu hbg hbh hx hy
      go_wp2
      go_quiet ((go_at_call 20; exact Calls.quiet_of (ints_same (SliceOf.drewN hsg) (SliceOf.drewN hsh) hrl)))
      go_wp2
      go_roundw
      case rel => exact ⟨u + 1, HLTU.out, by go_num, HK.out.drewN⟩
      case measure => have := HLTU.out; simp [intOf]; omega
    · obtain rfl : u = g.length := by omega
      have hltuI : ¬ (g.length : Int) < g.length := by omega
      have HK0 := Lib.hid HK.out
      clear HK cg ch hvg hvh hKW
      generalize wr = W6 at *
      go_wp2
      go_loopw [46] (fun kv wx => ∃ k : Nat, k ≤ ord.length ∧ kv = .int .i64 (k : Int) ∧ Hid (KW V wx S1 k ord (idomL g) (loopsL g) (.slice oa ord.length oc) uB uC)) (fun kv _ => ord.length - (intOf kv).toNat)
      case atStart => exact ⟨0, Nat.zero_le _, rfl, HK0⟩
      case round =>
        obtain ⟨k, hk, rfl, HK⟩ := hrel
        by_cases hlt : k < ord.length
        · have hltI : (k : Int) < ord.length := by omega
          have HLTK := Lib.hid hlt
          obtain ⟨ys, ho, hys⟩ := HK.out.o
          obtain ⟨gb, cp, e1, _, _⟩ := ho.form (by omega)
          cases e1
          obtain ⟨x, hx⟩ : ∃ x, ord[k]? = some x := ⟨_, List.getElem?_eq_getElem hlt⟩
          have hx20 := HLT.out x (List.mem_of_getElem? hx)
          have cx : wr.cell? ⟨gb, k, none⟩ = some (.int .i64 (x : Int)) := (ho.cellAt k (by omega)).trans (by rw [hys k (Nat.le_refl _), List.getElem?_map, hx]; rfl)
          have fx : wr.frozen? ⟨gb, k, none⟩ = false := ho.frozenAt k
          have hset := Lib.hid (HK.out.set (.int .i64 ((x : Int) + 1)))
          clear hx ho hys hlt
          go_wp2
          go_roundw
          case rel => exact ⟨k + 1, HLTK.out, by go_num, hset⟩
          case measure => have := HLTK.out; simp [intOf]; omega
        · obtain rfl : k = ord.length := by omega
          have hltI : ¬ (ord.length : Int) < ord.length := by omega
          have hvg := HVG.out.below HK.out.hb
          have hvh := HVH.out.below HK.out.hb
          have hb0 := HBV.out.trans (HK.out.hb.mono HBV.out.size)
          have hd0 : SliceOf encInt wr wr.heap.size uB (idomL g) := sliceOf_own HK.out.d (Nat.le_refl _)
          have hc0 : CycOf wr wr.heap.size uC (loopsL g) := HK.out.c.cyc (Nat.le_refl _)
          have cg := hvg.cell
          have ch := hvh.cell
          clear HK HK0
          generalize wr = W7 at *
          go_upto_region 15 with fail
          have hvg0 := var_drew hvg
          have hvh0 := var_drew hvh
          have hb00 := below_drew1 hb0
          have m0 : True := trivial
          have m1 : True := trivial
          have m2 : True := trivial
          have m3 : True := trivial
          have m4 : True := trivial
          have m5 : True := trivial
          have m6 : True := trivial
          have m7 : True := trivial
          have m8 : True := trivial
          go_region_held3 (fun w' => w'.cell? ⟨bx, 0, none⟩ = some (.slice (some ⟨bp, 0, none⟩) g.length g.length) ∧ w'.cell? ⟨bx + 1, 0, none⟩ = some (.slice (some ⟨bq, 0, none⟩) g.length g.length) ∧ Var w' (bx) (.slice (some ⟨bp, 0, none⟩) g.length g.length) (g) ∧ Var w' (bx + 1) (.slice (some ⟨bq, 0, none⟩) g.length g.length) (g) ∧ Below w.heap.size w w')
            (first
              | (go_split_ands; refine ⟨?_, ?_, ?_, ?_, ?_⟩ <;> assumption)
              | (go_split_ands; refine ⟨?_, ?_, var_drew ?_, var_drew ?_, below_drew1 ?_⟩ <;> assumption))
            (first
              | (go_at_call 21; have gate := m0; clear m0; (with_reducible refine (ordlen_of (n := ord.length) (Var.gr (b := bx + 1) (sv := .slice (some ⟨bq, 0, none⟩) g.length g.length) (g := g) (by assumption)) HORD.out.2.1).mono ?_); rintro e wP ⟨uaP, ucP, rfl, hbP⟩; have v0P : Var wP (bx) (.slice (some ⟨bp, 0, none⟩) g.length g.length) (g) := Var.below (by assumption) hbP; have v1P : Var wP (bx + 1) (.slice (some ⟨bq, 0, none⟩) g.length g.length) (g) := Var.below (by assumption) hbP; have c0P := v0P.cell; have c1P := v1P.cell; have hb0P : Below w.heap.size w wP := Below.trans (by assumption) (hbP.mono (Below.size (by assumption))); have hD0_P : SliceOf encInt wP wP.heap.size uB (idomL g) := (by first | exact slice_next hd0 hbP | exact slice_next (slice_drew hd0) hbP | exact slice_next (slice_drew (slice_drew hd0)) hbP | exact slice_next (slice_drew (slice_drew (slice_drew hd0))) hbP); have hC0_P : CycOf wP wP.heap.size uC (loopsL g) := (by first | exact cyc_next hc0 hbP | exact cyc_next (cyc_drew2 hc0) hbP | exact cyc_next (cyc_drew2 (cyc_drew2 hc0)) hbP | exact cyc_next (cyc_drew2 (cyc_drew2 (cyc_drew2 hc0))) hbP))
              | (go_at_call 23; have gate := m1; clear m1; (with_reducible refine (dom_of (xs := idomL g) (Var.gr (b := bx + 1) (sv := .slice (some ⟨bq, 0, none⟩) g.length g.length) (g := g) (by assumption)) rfl).mono ?_); rintro e wQ ⟨uQ, rfl, hoQ, hbQ⟩; have v0Q : Var wQ (bx) (.slice (some ⟨bp, 0, none⟩) g.length g.length) (g) := Var.below (by assumption) hbQ; have v1Q : Var wQ (bx + 1) (.slice (some ⟨bq, 0, none⟩) g.length g.length) (g) := Var.below (by assumption) hbQ; have c0Q := v0Q.cell; have c1Q := v1Q.cell; have hb0Q : Below w.heap.size w wQ := Below.trans (by assumption) (hbQ.mono (Below.size (by assumption))); have hD0_Q : SliceOf encInt wQ wQ.heap.size uB (idomL g) := (by first | exact slice_next hD0_P hbQ | exact slice_next (slice_drew hD0_P) hbQ | exact slice_next (slice_drew (slice_drew hD0_P)) hbQ | exact slice_next (slice_drew (slice_drew (slice_drew hD0_P))) hbQ); have hC0_Q : CycOf wQ wQ.heap.size uC (loopsL g) := (by first | exact cyc_next hC0_P hbQ | exact cyc_next (cyc_drew2 hC0_P) hbQ | exact cyc_next (cyc_drew2 (cyc_drew2 hC0_P)) hbQ | exact cyc_next (cyc_drew2 (cyc_drew2 (cyc_drew2 hC0_P))) hbQ); have hQ : SliceOf encInt wQ wQ.heap.size uQ (idomL g) := sliceOf_own hoQ (Nat.le_refl _); clear hoQ)
              | (go_at_call 20; have gate := m2; clear m2; (refine (ints_true (xs := idomL g) (ys := idomL g) (by repeat' (first | exact hD0_Q | refine slice_drew ?_)) (by repeat' (first | exact hQ | refine slice_drew ?_)) HLN.out.1 rfl).mono ?_); rintro e wR ⟨rfl, hbR⟩; have v0R : Var wR (bx) (.slice (some ⟨bp, 0, none⟩) g.length g.length) (g) := Var.below (by assumption) hbR; have v1R : Var wR (bx + 1) (.slice (some ⟨bq, 0, none⟩) g.length g.length) (g) := Var.below (by assumption) hbR; have c0R := v0R.cell; have c1R := v1R.cell; have hb0R : Below w.heap.size w wR := Below.trans (by assumption) (hbR.mono (Below.size (by assumption))); have hC0_R : CycOf wR wR.heap.size uC (loopsL g) := (by first | exact cyc_next hC0_Q hbR | exact cyc_next (cyc_drew2 hC0_Q) hbR | exact cyc_next (cyc_drew2 (cyc_drew2 hC0_Q)) hbR | exact cyc_next (cyc_drew2 (cyc_drew2 (cyc_drew2 hC0_Q))) hbR))
              | (go_at_call 26; have gate := m3; clear m3; (with_reducible refine (loops_of (cs := loopsL g) (Var.gr (b := bx + 1) (sv := .slice (some ⟨bq, 0, none⟩) g.length g.length) (g := g) (by assumption)) rfl).mono ?_); rintro e wS ⟨uS, rfl, hoS, hbS⟩; have v0S : Var wS (bx) (.slice (some ⟨bp, 0, none⟩) g.length g.length) (g) := Var.below (by assumption) hbS; have v1S : Var wS (bx + 1) (.slice (some ⟨bq, 0, none⟩) g.length g.length) (g) := Var.below (by assumption) hbS; have c0S := v0S.cell; have c1S := v1S.cell; have hb0S : Below w.heap.size w wS := Below.trans (by assumption) (hbS.mono (Below.size (by assumption))); have hC0_S : CycOf wS wS.heap.size uC (loopsL g) := (by first | exact cyc_next hC0_R hbS | exact cyc_next (cyc_drew2 hC0_R) hbS | exact cyc_next (cyc_drew2 (cyc_drew2 hC0_R)) hbS | exact cyc_next (cyc_drew2 (cyc_drew2 (cyc_drew2 hC0_R))) hbS); have hS : CycOf wS wS.heap.size uS (loopsL g) := hoS.cyc (Nat.le_refl _); clear hoS)
              | (go_at_call 25; have gate := m4; clear m4; (refine (cycles_true (xs := loopsL g) (ys := loopsL g) (by repeat' (first | exact hC0_S | refine cyc_drew2 ?_)) (by repeat' (first | exact hS | refine cyc_drew2 ?_)) HLN.out.2.1 HLN.out.2.2 rfl).mono ?_); rintro e wT ⟨rfl, hbT⟩; have v0T : Var wT (bx) (.slice (some ⟨bp, 0, none⟩) g.length g.length) (g) := Var.below (by assumption) hbT; have v1T : Var wT (bx + 1) (.slice (some ⟨bq, 0, none⟩) g.length g.length) (g) := Var.below (by assumption) hbT; have c0T := v0T.cell; have c1T := v1T.cell; have hb0T : Below w.heap.size w wT := Below.trans (by assumption) (hbT.mono (Below.size (by assumption))))
              | (go_at_call 28; have gate := m5; clear m5; (with_reducible refine (red_of (q := q) (Var.gr (b := bx + 1) (sv := .slice (some ⟨bq, 0, none⟩) g.length g.length) (g := g) (by assumption)) HORD.out.1).mono ?_); rintro e wU ⟨rfl, hbU⟩; have v0U : Var wU (bx) (.slice (some ⟨bp, 0, none⟩) g.length g.length) (g) := Var.below (by assumption) hbU; have v1U : Var wU (bx + 1) (.slice (some ⟨bq, 0, none⟩) g.length g.length) (g) := Var.below (by assumption) hbU; have c0U := v0U.cell; have c1U := v1U.cell; have hb0U : Below w.heap.size w wU := Below.trans (by assumption) (hbU.mono (Below.size (by assumption))))
              | (go_at_call 21; have gate := m6; clear m6; (with_reducible refine (ord_of (xs := ord) (Var.gr (b := bx) (sv := .slice (some ⟨bp, 0, none⟩) g.length g.length) (g := g) (by assumption)) HORD.out.2.2).mono ?_); rintro e wX ⟨uX, rfl, hoX, hbX⟩; have v0X : Var wX (bx) (.slice (some ⟨bp, 0, none⟩) g.length g.length) (g) := Var.below (by assumption) hbX; have v1X : Var wX (bx + 1) (.slice (some ⟨bq, 0, none⟩) g.length g.length) (g) := Var.below (by assumption) hbX; have c0X := v0X.cell; have c1X := v1X.cell; have hb0X : Below w.heap.size w wX := Below.trans (by assumption) (hbX.mono (Below.size (by assumption))); have hX : SliceOf encNat wX wX.heap.size uX (ord) := sliceOf_own hoX (Nat.le_refl _); clear hoX)
              | (go_at_call 21; have gate := m7; clear m7; (with_reducible refine (ord_of (xs := ord) (Var.gr (b := bx + 1) (sv := .slice (some ⟨bq, 0, none⟩) g.length g.length) (g := g) (by assumption)) HORD.out.2.2).mono ?_); rintro e wY ⟨uY, rfl, hoY, hbY⟩; have v0Y : Var wY (bx) (.slice (some ⟨bp, 0, none⟩) g.length g.length) (g) := Var.below (by assumption) hbY; have v1Y : Var wY (bx + 1) (.slice (some ⟨bq, 0, none⟩) g.length g.length) (g) := Var.below (by assumption) hbY; have c0Y := v0Y.cell; have c1Y := v1Y.cell; have hb0Y : Below w.heap.size w wY := Below.trans (by assumption) (hbY.mono (Below.size (by assumption))); have hX_Y : SliceOf encNat wY wY.heap.size uX (ord) := (by first | exact slice_next hX hbY | exact slice_next (slice_drew hX) hbY | exact slice_next (slice_drew (slice_drew hX)) hbY | exact slice_next (slice_drew (slice_drew (slice_drew hX))) hbY); have hY : SliceOf encNat wY wY.heap.size uY (ord) := sliceOf_own hoY (Nat.le_refl _); clear hoY)
              | (go_at_call 20; have gate := m8; clear m8; (refine (intsN_true (xs := ord) (ys := ord) (by repeat' (first | exact hX_Y | refine slice_drew ?_)) (by repeat' (first | exact hY | refine slice_drew ?_)) HLN2.out rfl).mono ?_); rintro e wZ ⟨rfl, hbZ⟩; have v0Z : Var wZ (bx) (.slice (some ⟨bp, 0, none⟩) g.length g.length) (g) := Var.below (by assumption) hbZ; have v1Z : Var wZ (bx + 1) (.slice (some ⟨bq, 0, none⟩) g.length g.length) (g) := Var.below (by assumption) hbZ; have c0Z := v0Z.cell; have c1Z := v1Z.cell; have hb0Z : Below w.heap.size w wZ := Below.trans (by assumption) (hbZ.mono (Below.size (by assumption)))))
          all_goals go_wp2_with fail
          all_goals go_ret
          all_goals exact ⟨rfl, hb0Z⟩
end Go.Proofs.Ytpfinkcnklkclaa
