/-
  The walk of the laws' sanity: the examples of the document.
-/
import Derived.Test.YtpfinkcnklkclaaSan0
set_option linter.unusedVariables false
set_option linter.unusedSimpArgs false
namespace Go.Proofs.Ytpfinkcnklkclaa
open Go.RowKit

/-- All four examples. -/
structure San (w0 w : World) (b1 b2 b3 b4 s1 s2 s3 s4 : Nat) : Prop where
  v1 : Var w b1 (.slice (some ⟨s1, 0, none⟩) 4 4) gA
  v2 : Var w b2 (.slice (some ⟨s2, 0, none⟩) 4 4) gB
  v3 : Var w b3 (.slice (some ⟨s3, 0, none⟩) 3 3) gC
  v4 : Var w b4 (.slice (some ⟨s4, 0, none⟩) 2 2) gD
  hb : Below w0.heap.size w0 w
theorem San.below {w0 w w' : World} {b1 b2 b3 b4 s1 s2 s3 s4 : Nat} (h : San w0 w b1 b2 b3 b4 s1 s2 s3 s4) (hb : Below w.heap.size w w') : San w0 w' b1 b2 b3 b4 s1 s2 s3 s4 :=
  ⟨h.v1.below hb, h.v2.below hb, h.v3.below hb, h.v4.below hb, h.hb.trans (hb.mono h.hb.size)⟩

theorem san_drew {w0 w : World} {b1 b2 b3 b4 s1 s2 s3 s4 : Nat} (h : San w0 w b1 b2 b3 b4 s1 s2 s3 s4) : San w0 w.drew b1 b2 b3 b4 s1 s2 s3 s4 := h.below ((Below.refl _ _).drew)
theorem cyc_drew {w : World} {B : Nat} {v : Value} {cs : List (Nat × List Nat)} (h : CycOf w B v cs) : CycOf w.drew B v cs := h
structure St (w0 w : World) (b1 b2 b3 b4 s1 s2 s3 s4 : Nat) (x y : Value) : Prop where
  san : San w0 w b1 b2 b3 b4 s1 s2 s3 s4
  cx : CycOf w w.heap.size x [(1, [1, 2])]
  cy : CycOf w w.heap.size y [(0, [0])]
theorem St.below {w0 w w' : World} {b1 b2 b3 b4 s1 s2 s3 s4 : Nat} {x y : Value} (h : St w0 w b1 b2 b3 b4 s1 s2 s3 s4 x y) (hb : Below w.heap.size w w') : St w0 w' b1 b2 b3 b4 s1 s2 s3 s4 x y :=
  ⟨h.san.below hb, (h.cx.below hb).mono hb.size, (h.cy.below hb).mono hb.size⟩
theorem below_alloc {w w' : World} {o : Obj} (hb : Below (w.alloc o).heap.size (w.alloc o) w') : Below w.heap.size w w' := ((Below.refl _ w).alloc (Nat.le_refl _) o).trans (hb.mono (by simp))
theorem cyc_alloc {w : World} {o : Obj} {v : Value} {cs : List (Nat × List Nat)} (h : CycOf w w.heap.size v cs) : CycOf (w.alloc o) (w.alloc o).heap.size v cs := (h.below ((Below.refl _ w).alloc (Nat.le_refl _) o)).mono (by simp)
theorem _root_.Go.Proofs.Ytpfinkcnklkclaa.SliceOf.alloc {α : Type} {enc : α → Value} {w : World} {o : Obj} {v : Value} {xs : List α} (h : SliceOf enc w w.heap.size v xs) : SliceOf enc (w.alloc o) (w.alloc o).heap.size v xs := (h.below ((Below.refl _ w).alloc (Nat.le_refl _) o)).mono (by simp)
theorem cyc_lit (w : World) (h : Nat) (bs : List Nat) : CycOf ((w.alloc (.cells (bs.map encNat).toArray 3)).alloc (.cells #[.int .i64 (h : Int), .slice (some ⟨w.heap.size, 0, none⟩) bs.length bs.length] 44))
    ((w.alloc (.cells (bs.map encNat).toArray 3)).alloc (.cells #[.int .i64 (h : Int), .slice (some ⟨w.heap.size, 0, none⟩) bs.length bs.length] 44)).heap.size (.slice (some ⟨w.heap.size + 1, 0, none⟩) 1 1) [(h, bs)] := by
  refine ⟨_, _, rfl, Nat.le_refl _, fun k c hk => ?_⟩
  cases k with
  | succ k => simp at hk
  | zero =>
    simp at hk; subst hk
    exact ⟨w.heap.size + 1, 0, .slice (some ⟨w.heap.size, 0, none⟩) bs.length bs.length, rfl, by simp, cell_of_blk (new_at (by simp)) (by simp), cell_of_blk (new_at (by simp)) (by simp), (sliceOf_new (t := 3) (new_at rfl) (Nat.le_refl _)).alloc⟩
set_option maxRecDepth 100000 in
set_option maxHeartbeats 1600000 in
theorem sanity_any (w : World) : Calls Try.prog 16 #[] w fun e w' => e = .returned (.bool true) ∧ Below w.heap.size w w' := by
  go_enter Try.func16, Try.ntmps16
  go_upto_region 1 with fail
  go_cut [1] (fun vx wx => ∃ bx sx, vx = .pointer (some ⟨bx, 0, none⟩) ∧ Hid (Var wx bx (.slice (some ⟨sx, 0, none⟩) 4 4) gA ∧ Below w.heap.size w wx))
  case first =>
    go_wp2_with (go_at_call 35; go_must (refine (graph_any _ _ _ _).mono ?_; rintro e w1 ⟨rfl, hb1⟩))
    go_meet
    have hb2 : Below w.heap.size w w1 := (((((Below.refl _ w).alloc (Nat.le_refl _) _).alloc (by simp) _).alloc (by simp; omega) _).alloc (by simp; omega) _).trans (hb1.mono (by simp; omega))
    have hb3 := hb2.alloc (by have := hb2.size; omega) (.cells #[.slice (some ⟨w.heap.size + 1 + 1 + 1, 0, none⟩) 4 4] 24)
    exact ⟨_, _, rfl, Var.mk' (inA w) hb1, hb3⟩
  case rest =>
  obtain ⟨b1, s1, rfl, HH⟩ := hcut
  go_upto_region 2 with fail
  go_cut [2] (fun vx wx => ∃ bx sx, vx = .pointer (some ⟨bx, 0, none⟩) ∧ Hid (Var wx b1 (.slice (some ⟨s1, 0, none⟩) 4 4) gA ∧ Var wx bx (.slice (some ⟨sx, 0, none⟩) 4 4) gB ∧ Below w.heap.size w wx))
  case first =>
    go_wp2_with (go_at_call 35; go_must (refine (graph_any _ _ _ _).mono ?_; rintro e w1 ⟨rfl, hb1⟩))
    go_meet
    have hb2 : Below wc.heap.size wc w1 := (((((Below.refl _ wc).alloc (Nat.le_refl _) _).alloc (by simp) _).alloc (by simp; omega) _).alloc (by simp; omega) _).trans (hb1.mono (by simp; omega))
    have hb3 := hb2.alloc (by have := hb2.size; omega) (.cells #[.slice (some ⟨wc.heap.size + 1 + 1 + 1, 0, none⟩) 4 4] 24)
    exact ⟨_, _, rfl, HH.out.1.below hb3, Var.mk' (inB wc) hb1, HH.out.2.trans (hb3.mono HH.out.2.size)⟩
  case rest =>
  obtain ⟨b2, s2, rfl, HH⟩ := hcut
  go_upto_region 3 with fail
  go_cut [3] (fun vx wx => ∃ bx sx, vx = .pointer (some ⟨bx, 0, none⟩) ∧ Hid (Var wx b1 (.slice (some ⟨s1, 0, none⟩) 4 4) gA ∧ Var wx b2 (.slice (some ⟨s2, 0, none⟩) 4 4) gB ∧ Var wx bx (.slice (some ⟨sx, 0, none⟩) 3 3) gC ∧ Below w.heap.size w wx))
  case first =>
    go_wp2_with (go_at_call 35; go_must (refine (graph_any _ _ _ _).mono ?_; rintro e w1 ⟨rfl, hb1⟩))
    go_meet
    have hb2 : Below wc.heap.size wc w1 := (((((Below.refl _ wc).alloc (Nat.le_refl _) _).alloc (by simp) _).alloc (by simp; omega) _).alloc (by simp; omega) _).trans (hb1.mono (by simp; omega))
    have hb3 := hb2.alloc (by have := hb2.size; omega) (.cells #[.slice (some ⟨wc.heap.size + 1 + 1 + 1, 0, none⟩) 3 3] 24)
    exact ⟨_, _, rfl, HH.out.1.below hb3, HH.out.2.1.below hb3, Var.mk' (inC wc) hb1, HH.out.2.2.trans (hb3.mono HH.out.2.2.size)⟩
  case rest =>
  obtain ⟨b3, s3, rfl, HH⟩ := hcut
  go_upto_region 4 with fail
  go_cut [4] (fun vx wx => ∃ bx sx, vx = .pointer (some ⟨bx, 0, none⟩) ∧ Hid (Var wx b1 (.slice (some ⟨s1, 0, none⟩) 4 4) gA ∧ Var wx b2 (.slice (some ⟨s2, 0, none⟩) 4 4) gB ∧ Var wx b3 (.slice (some ⟨s3, 0, none⟩) 3 3) gC ∧ Var wx bx (.slice (some ⟨sx, 0, none⟩) 2 2) gD ∧ Below w.heap.size w wx))
  case first =>
    go_wp2_with (go_at_call 35; go_must (refine (graph_any _ _ _ _).mono ?_; rintro e w1 ⟨rfl, hb1⟩))
    go_meet
    have hb2 : Below wc.heap.size wc w1 := ((((Below.refl _ wc).alloc (Nat.le_refl _) _).alloc (by simp) _).alloc (by simp; omega) _).trans (hb1.mono (by simp; omega))
    have hb3 := hb2.alloc (by have := hb2.size; omega) (.cells #[.slice (some ⟨wc.heap.size + 1 + 1, 0, none⟩) 2 2] 24)
    exact ⟨_, _, rfl, HH.out.1.below hb3, HH.out.2.1.below hb3, HH.out.2.2.1.below hb3, Var.mk' (inD wc) hb1, HH.out.2.2.2.trans (hb3.mono HH.out.2.2.2.size)⟩
  case rest =>
  obtain ⟨b4, s4, rfl, HH⟩ := hcut
  have HS : Hid (San w wc b1 b2 b3 b4 s1 s2 s3 s4) := ⟨HH.out.1, HH.out.2.1, HH.out.2.2.1, HH.out.2.2.2.1, HH.out.2.2.2.2⟩
  clear HH
  go_upto_region 5 with fail
  go_cut [5, 6] (fun x y wx => ∃ ax cx ay cy, x = .slice ax 1 cx ∧ y = .slice ay 1 cy ∧ Hid (San w wx b1 b2 b3 b4 s1 s2 s3 s4 ∧ CycOf wx wx.heap.size x [(1, [1, 2])] ∧ CycOf wx wx.heap.size y [(0, [0])]))
  case first =>
    have cs2 := HS.out.v2.cell
    have cs4 := HS.out.v4.cell
    have hsan := HS.out
    have hsan0 := san_drew hsan
    go_region_held3 (fun w' => w'.cell? ⟨b2, 0, none⟩ = some (.slice (some ⟨s2, 0, none⟩) 4 4) ∧ w'.cell? ⟨b4, 0, none⟩ = some (.slice (some ⟨s4, 0, none⟩) 2 2) ∧ San w w' b1 b2 b3 b4 s1 s2 s3 s4)
      (first
        | (go_split_ands; refine ⟨?_, ?_, ?_⟩ <;> assumption)
        | (go_split_ands; refine ⟨?_, ?_, san_drew ?_⟩ <;> assumption))
      (first
        | (go_at_call 26; have gate := hxB; refine (ans_loops (San.v4 (w0 := w) (b1 := b1) (b2 := b2) (b3 := b3) (b4 := b4) (s1 := s1) (s2 := s2) (s3 := s3) (s4 := s4) (by assumption)).2).mono ?_; rintro e wD ⟨ovD, rfl, hovD, hbD⟩; have hsD := San.below (w0 := w) (b1 := b1) (b2 := b2) (b3 := b3) (b4 := b4) (s1 := s1) (s2 := s2) (s3 := s3) (s4 := s4) (by assumption) hbD; have cD2 := hsD.v2.cell; have cD4 := hsD.v4.cell; have hxD := hovD.cyc (Nat.le_refl _); obtain ⟨axD, cxD, rfl, _⟩ := id hxD)
        | (go_at_call 26; refine (ans_loops (San.v2 (w0 := w) (b1 := b1) (b2 := b2) (b3 := b3) (b4 := b4) (s1 := s1) (s2 := s2) (s3 := s3) (s4 := s4) (by assumption)).2).mono ?_; rintro e wB ⟨ovB, rfl, hovB, hbB⟩; have hsB := San.below (w0 := w) (b1 := b1) (b2 := b2) (b3 := b3) (b4 := b4) (s1 := s1) (s2 := s2) (s3 := s3) (s4 := s4) (by assumption) hbB; have cB2 := hsB.v2.cell; have cB4 := hsB.v4.cell; have hxB := hovB.cyc (Nat.le_refl _); obtain ⟨axB, cxB, rfl, _⟩ := id hxB))
    all_goals go_wp2_with fail
    all_goals go_meet
    all_goals refine ⟨axB, cxB, axD, cxD, ?_, ?_, hsD, ?_, ?_⟩
    all_goals first
      | (rw [sB1]; rfl)
      | (rw [sD1]; rfl)
      | (rw [sD1] at hxD; exact hxD)
      | (rw [sB1] at hxB; first | exact (hxB.below hbD).mono hbD.size | exact ((cyc_drew hxB).below hbD).mono hbD.size)
  case rest =>
  obtain ⟨ax, cx, ay, cy, rfl, rfl, HQ⟩ := hcut
  clear HS
  obtain ⟨x, hx⟩ : ∃ x, x = Value.slice ax 1 cx := ⟨_, rfl⟩
  obtain ⟨y, hy⟩ : ∃ y, y = Value.slice ay 1 cy := ⟨_, rfl⟩
  rw [← hx, ← hy] at HQ ⊢
  clear hx hy
  have st : St w wc b1 b2 b3 b4 s1 s2 s3 s4 x y := ⟨HQ.out.1, HQ.out.2.1, HQ.out.2.2⟩
  have c1 := st.san.v1.cell
  have c2 := st.san.v2.cell
  have c3 := st.san.v3.cell
  have c4 := st.san.v4.cell
  have st := Lib.hid st
  clear HQ
  have m0 := True.intro
  go_upto_region 6 with fail
  go_wp2_with (first
    | (go_at_call 21; have gate := m0; clear gate m0; go_must (refine ((show Calls _ _ _ _ (RetNats _ [0, 2, 1, 3]) from sA1 ▸ ans_order st.out.san.v1.2)).mono ?_; rintro e w1 ⟨v, rfl, hv, hb⟩; have st2 := st.out.below hb; clear st c1 c2 c3 c4; have st := Lib.hid st2; have c1 := st.out.san.v1.cell; have c2 := st.out.san.v2.cell; have c3 := st.out.san.v3.cell; have c4 := st.out.san.v4.cell; have hvo : SliceOf encNat _ _ v [0, 2, 1, 3] := sliceOf_own hv (Nat.le_refl _); clear hv; clear st2 hb; have m1 := True.intro))
    | (go_at_call 20; have gate := m1; clear gate m1; go_must (refine (intsN_true (xs := [0, 2, 1, 3]) (ys := [0, 2, 1, 3]) hvo.alloc (sliceOf_new (t := 3) (new_at rfl) (Nat.le_refl _)) (by decide) rfl).mono ?_; rintro e w2 ⟨rfl, hb⟩; have st2 := st.out.below (below_alloc hb); clear st c1 c2 c3 c4; have st := Lib.hid st2; have c1 := st.out.san.v1.cell; have c2 := st.out.san.v2.cell; have c3 := st.out.san.v3.cell; have c4 := st.out.san.v4.cell; clear hvo; clear st2 hb; have m2 := True.intro))
    | (go_at_call 23; have gate := m2; clear gate m2; go_must (refine ((show Calls _ _ _ _ (RetInts _ [-1, 0, 0, 0]) from sA2 ▸ ans_dominators st.out.san.v1.2)).mono ?_; rintro e w3 ⟨v, rfl, hv, hb⟩; have st2 := st.out.below hb; clear st c1 c2 c3 c4; have st := Lib.hid st2; have c1 := st.out.san.v1.cell; have c2 := st.out.san.v2.cell; have c3 := st.out.san.v3.cell; have c4 := st.out.san.v4.cell; have hvo : SliceOf encInt _ _ v [-1, 0, 0, 0] := sliceOf_own hv (Nat.le_refl _); clear hv; clear st2 hb; have m3 := True.intro))
    | (go_at_call 20; have gate := m3; clear gate m3; go_must (refine (ints_true (xs := [-1, 0, 0, 0]) (ys := [-1, 0, 0, 0]) hvo.alloc (sliceOf_new (t := 3) (new_at rfl) (Nat.le_refl _)) (by decide) rfl).mono ?_; rintro e w4 ⟨rfl, hb⟩; have st2 := st.out.below (below_alloc hb); clear st c1 c2 c3 c4; have st := Lib.hid st2; have c1 := st.out.san.v1.cell; have c2 := st.out.san.v2.cell; have c3 := st.out.san.v3.cell; have c4 := st.out.san.v4.cell; clear hvo; clear st2 hb; have m4 := True.intro))
    | (go_at_call 25; have gate := m4; clear gate m4; go_must (refine (cycles_true (xs := [(1, [1, 2])]) (ys := [(1, [1, 2])]) (cyc_alloc (cyc_alloc st.out.cx)) (cyc_lit _ 1 [1, 2]) (by decide) (by decide) rfl).mono ?_; rintro e w5 ⟨rfl, hb⟩; have st2 := st.out.below (below_alloc (below_alloc hb)); clear st c1 c2 c3 c4; have st := Lib.hid st2; have c1 := st.out.san.v1.cell; have c2 := st.out.san.v2.cell; have c3 := st.out.san.v3.cell; have c4 := st.out.san.v4.cell; clear st2 hb; have m5 := True.intro))
    | (go_at_call 28; have gate := m5; clear gate m5; go_must (refine ((show Calls _ _ _ _ (fun e w' => e = .returned (.bool true) ∧ _) from sB2 ▸ ans_reducible st.out.san.v2.2)).mono ?_; rintro e w6 ⟨rfl, hb⟩; have st2 := st.out.below hb; clear st c1 c2 c3 c4; have st := Lib.hid st2; have c1 := st.out.san.v1.cell; have c2 := st.out.san.v2.cell; have c3 := st.out.san.v3.cell; have c4 := st.out.san.v4.cell; clear st2 hb; have m6 := True.intro))
    | (go_at_call 23; have gate := m6; clear gate m6; go_must (refine ((show Calls _ _ _ _ (RetInts _ [-1, 0, 0]) from sC1 ▸ ans_dominators st.out.san.v3.2)).mono ?_; rintro e w7 ⟨v, rfl, hv, hb⟩; have st2 := st.out.below hb; clear st c1 c2 c3 c4; have st := Lib.hid st2; have c1 := st.out.san.v1.cell; have c2 := st.out.san.v2.cell; have c3 := st.out.san.v3.cell; have c4 := st.out.san.v4.cell; have hvo : SliceOf encInt _ _ v [-1, 0, 0] := sliceOf_own hv (Nat.le_refl _); clear hv; clear st2 hb; have m7 := True.intro))
    | (go_at_call 20; have gate := m7; clear gate m7; go_must (refine (ints_true (xs := [-1, 0, 0]) (ys := [-1, 0, 0]) hvo.alloc (sliceOf_new (t := 3) (new_at rfl) (Nat.le_refl _)) (by decide) rfl).mono ?_; rintro e w8 ⟨rfl, hb⟩; have st2 := st.out.below (below_alloc hb); clear st c1 c2 c3 c4; have st := Lib.hid st2; have c1 := st.out.san.v1.cell; have c2 := st.out.san.v2.cell; have c3 := st.out.san.v3.cell; have c4 := st.out.san.v4.cell; clear hvo; clear st2 hb; have m8 := True.intro))
    | (go_at_call 26; have gate := m8; clear gate m8; go_must (refine ((show Calls _ _ _ _ (RetLoops _ []) from sC2 ▸ ans_loops st.out.san.v3.2)).mono ?_; rintro e w9 ⟨v, rfl, hv, hb⟩; have st2 := st.out.below hb; clear st c1 c2 c3 c4; have st := Lib.hid st2; have c1 := st.out.san.v1.cell; have c2 := st.out.san.v2.cell; have c3 := st.out.san.v3.cell; have c4 := st.out.san.v4.cell; obtain ⟨az, cz, rfl, _⟩ := hv.cyc (Nat.le_refl _); clear hv; clear st2 hb; have m9 := True.intro))
    | (go_at_call 28; have gate := m9; clear gate m9; go_must (refine ((show Calls _ _ _ _ (fun e w' => e = .returned (.bool false) ∧ _) from sC3 ▸ ans_reducible st.out.san.v3.2)).mono ?_; rintro e w10 ⟨rfl, hb⟩; have st2 := st.out.below hb; clear st c1 c2 c3 c4; have st := Lib.hid st2; have c1 := st.out.san.v1.cell; have c2 := st.out.san.v2.cell; have c3 := st.out.san.v3.cell; have c4 := st.out.san.v4.cell; clear st2 hb; have m10 := True.intro))
    | (go_at_call 25; have gate := m10; clear gate m10; go_must (refine (cycles_true (xs := [(0, [0])]) (ys := [(0, [0])]) (cyc_alloc (cyc_alloc st.out.cy)) (cyc_lit _ 0 [0]) (by decide) (by decide) rfl).mono ?_; rintro e w11 ⟨rfl, hb⟩; have st2 := st.out.below (below_alloc (below_alloc hb)); clear st c1 c2 c3 c4; have st := Lib.hid st2; have c1 := st.out.san.v1.cell; have c2 := st.out.san.v2.cell; have c3 := st.out.san.v3.cell; have c4 := st.out.san.v4.cell; clear st2 hb; have m11 := True.intro))
    | (go_at_call 23; have gate := m11; clear gate m11; go_must (refine ((show Calls _ _ _ _ (RetInts _ [-1, -1]) from sD2 ▸ ans_dominators st.out.san.v4.2)).mono ?_; rintro e w12 ⟨v, rfl, hv, hb⟩; have st2 := st.out.below hb; clear st c1 c2 c3 c4; have st := Lib.hid st2; have c1 := st.out.san.v1.cell; have c2 := st.out.san.v2.cell; have c3 := st.out.san.v3.cell; have c4 := st.out.san.v4.cell; have hvo : SliceOf encInt _ _ v [-1, -1] := sliceOf_own hv (Nat.le_refl _); clear hv; clear st2 hb; have m12 := True.intro))
    | (go_at_call 20; have gate := m12; clear gate m12; go_must (refine (ints_true (xs := [-1, -1]) (ys := [-1, -1]) hvo.alloc (sliceOf_new (t := 3) (new_at rfl) (Nat.le_refl _)) (by decide) rfl).mono ?_; rintro e w13 ⟨rfl, hb⟩; have st2 := st.out.below (below_alloc hb); clear st c1 c2 c3 c4; have st := Lib.hid st2; have c1 := st.out.san.v1.cell; have c2 := st.out.san.v2.cell; have c3 := st.out.san.v3.cell; have c4 := st.out.san.v4.cell; clear hvo; clear st2 hb; have m13 := True.intro)))
  go_ret
  exact ⟨rfl, st.out.san.hb⟩
end Go.Proofs.Ytpfinkcnklkclaa
