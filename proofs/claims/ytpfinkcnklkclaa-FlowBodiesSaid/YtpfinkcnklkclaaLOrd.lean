/-
  The walk of the law FlowOrder.
-/
import Derived.Test.YtpfinkcnklkclaaMade2
import Derived.Test.YtpfinkcnklkclaaSan
set_option linter.unusedVariables false
set_option linter.unusedSimpArgs false
namespace Go.Proofs.Ytpfinkcnklkclaa
open Go.RowKit

def marks (n : Nat) (xs : List Nat) : List Bool := xs.foldl (fun s x => s.set x true) (List.replicate n false)
theorem marks_len (n : Nat) (xs : List Nat) : (marks n xs).length = n := by
  unfold marks
  have : ∀ (xs : List Nat) (s : List Bool), (xs.foldl (fun s x => s.set x true) s).length = s.length := by
    intro xs
    induction xs with
    | nil => intros; rfl
    | cons a l ih => intro s; rw [List.foldl_cons, ih]; simp
  rw [this]; simp
theorem marks_snoc (n : Nat) (xs : List Nat) (x : Nat) : marks n (xs ++ [x]) = (marks n xs).set x true := by simp [marks]
theorem marks_get (n : Nat) (xs : List Nat) (y : Nat) (hy : y < n) : (marks n xs)[y]? = some (decide (y ∈ xs)) := by
  unfold marks
  have : ∀ (xs : List Nat) (s : List Bool), s.length = n → ∀ b, s[y]? = some b → (xs.foldl (fun s x => s.set x true) s)[y]? = some (b || decide (y ∈ xs)) := by
    intro xs
    induction xs with
    | nil => intro s _ b hb; simpa using hb
    | cons a l ih =>
      intro s hs b hb
      rw [List.foldl_cons]
      by_cases e : a = y
      · subst e
        rw [ih _ (by simpa using hs) true (by rw [List.getElem?_set_self (by omega)])]
        simp
      · rw [ih _ (by simpa using hs) b (by rw [List.getElem?_set_ne e]; exact hb)]
        simp [Ne.symm e]
  rw [this xs _ (by simp) false (by simp [hy])]
  simp

/-- The row of marks, and that all else stands. -/
def LO (w3 wr : World) (n : Nat) (xs : List Nat) : Prop := wr.heap[w3.heap.size]? = some (.cells ((marks n xs).map encBool).toArray 4 (0, 0)) ∧ Below w3.heap.size w3 wr
theorem ans_from0 {w : World} {sv : Value} {g : List (List Nat)} (h : GraphIn w sv g) : Calls Try.prog 31 #[.agg #[sv], .int .i64 0, .int .i64 (-1)] w (RetBools w (fromL g 0 (-1))) := ans_from h 0 h.valid.1 (-1)

set_option maxRecDepth 100000 in
set_option maxHeartbeats 1600000 in
theorem law_order (w : World) (sv : Value) (l : List (Int × Int)) (h : PairsOf w w.heap.size sv l) (hi : ∀ p ∈ l, I64 p.1 ∧ I64 p.2) (hl : l.length ≤ 9223372036854775807) :
    Calls Try.prog 4 #[sv] w fun e w' => e = .returned (.bool true) ∧ Below w.heap.size w w' := by
  obtain ⟨sa, sc, hsv⟩ : ∃ a c, sv = .slice a l.length c := let ⟨a, c, e, _⟩ := h; ⟨a, c, e⟩
  have hgv := madeL_valid (l.take 60)
  have hgn := madeL_len (l.take 60)
  obtain ⟨g, hge⟩ : ∃ g, g = madeL (l.take 60) := ⟨_, rfl⟩
  rw [← hge] at hgv hgn
  have hmd : ∀ W, Below w.heap.size w W → Calls Try.prog 30 #[sv] W (RetGraph W g) := fun W hb => by
    rw [hge]; exact law_made W sv l ((h.below hb).mono hb.size) hi hl
  have HMD := Lib.hid hmd
  clear hmd h hi
  obtain ⟨ns, hO⟩ := ordF hgv
  have hmk := run_make_row' (P := Try.prog) 36 4 (.bool false) 1 Try.underlying36 Try.info_bool rfl .i64 .i64 g.length (by omega) (by omega)
  have hnl : ns.length + 1 ≤ 20 := by have := (hO.is.nodes hgv).1; simp only [List.length_cons] at this; omega
  have HO := Lib.hid hO
  have HGV := Lib.hid hgv
  have hsame : ∀ x, x < g.length → (fromL g 0 (-1))[x]? = some (decide (x ∈ 0 :: ns)) := fun x hx => by
    have h1 := fromB_iff hgv hgv.1 (-1) x
    have h2 := allB_iff hgv x
    have hlen : x < (fromL g 0 (-1)).length := by rw [fromL_len hgv hgv.1]; exact hx
    rw [List.getElem?_eq_getElem hlen]
    congr 1
    have h3 : fromB g 0 (-1) x = (fromL g 0 (-1))[x] := by unfold fromB; rw [List.getD_eq_getElem?_getD, List.getElem?_eq_getElem hlen]; rfl
    rw [← h3, Bool.eq_iff_iff, h2, decide_eq_true_eq, hO.mem]
  have HSAME := Lib.hid hsame
  have hfl := fromL_len hgv hgv.1 (-1)
  clear hO hgv hge hsame
  subst hsv
  go_enter Try.func4, Try.ntmps4
  go_wp2_with (first
    | (go_at_call 16; go_must (refine (sanity_any _).mono ?_; rintro e w1 ⟨rfl, hb1⟩))
    | (go_at_call 30; go_must (refine (HMD.out _ hb1).mono ?_; rintro e w2 ⟨bp, rfl, hbp, hor, hgw, hb2⟩; have hv2 := Var.mk' (graph_own hor hgw) (Below.refl _ _); have cv2 := hv2.cell; have hb02 : Below w.heap.size w _ := (hb1.trans (hb2.mono hb1.size)).alloc (by have := hb1.size; have := hb2.size; omega) (.cells #[.slice (some ⟨bp, 0, none⟩) g.length g.length] 24)))
    | (go_at_call 21; go_must (refine (ans_order hv2.2).mono ?_; rintro e w3 ⟨ov, rfl, ho, hb3⟩; rw [HO.out.eq] at ho; obtain ⟨oa, oc, rfl⟩ := ownsRow_form ho; have hv3 := Lib.hid (hv2.below hb3); have cv3 := hv3.out.cell; have hb03 := Lib.hid (hb02.trans (hb3.mono hb02.size)); have hso := Lib.hid (sliceOf_own (enc := encNat) (xs := 0 :: ns) ho (Nat.le_refl _)); clear hb02 hb2 hb3 ho cv2 hv2 hor hgw)))
  generalize hbx : w2.heap.size = bx at *
  have hlx : bx < w3.heap.size := World.block_lt_of_cell? w3 _ cv3
  clear hbx
  simp only [List.length_cons] at *
  go_loopw [22] (fun i wr => ∃ k : Nat, k ≤ ns.length + 1 ∧ i = .int .i64 (k : Int) ∧ Hid (LO w3 wr g.length ((0 :: ns).take k))) (fun i _ => ns.length + 1 - (intOf i).toNat)
  case atStart =>
    refine ⟨0, Nat.zero_le _, rfl, ?_, (Below.refl _ _).alloc (Nat.le_refl _) _⟩
    rw [new_at rfl, toArray_madeCells]; simp [marks, encBool]
  case round =>
    obtain ⟨k, hk, rfl, HK⟩ := hrel
    by_cases hlt : k < ns.length + 1
    · obtain ⟨x, hx⟩ : ∃ x, (0 :: ns)[k]? = some x := ⟨_, List.getElem?_eq_getElem (by simpa using hlt)⟩
      have hxg := HO.out.lt x (List.mem_of_getElem? hx)
      have hxI : (x : Int) < g.length := by omega
      have hltI : (k : Int) < ns.length + 1 := by omega
      have HLT := Lib.hid hlt
      have hk0 : k = 0 → x = 0 := fun e => by subst e; simpa using hx.symm
      obtain ⟨oa', oc', e1, _, hxx⟩ := hso.out.below HK.out.2
      cases e1
      obtain ⟨bo, oo, rfl, _, co⟩ := hxx k x hx
      simp only [encNat] at co
      have hnot : x ∉ (0 :: ns).take k := fun hm => by
        obtain ⟨j, hj⟩ := List.getElem?_of_mem hm
        have hjl := (List.getElem?_eq_some_iff.1 hj).1
        rw [List.length_take] at hjl
        rw [List.getElem?_take, if_pos (by omega)] at hj
        have h1 := posOf_get HO.out.nodup hj
        have h2 := posOf_get HO.out.nodup hx
        omega
      have cs : wr.cell? ⟨w3.heap.size, x, none⟩ = some (.bool false) := cell_of_blk HK.out.1 (by simp [marks_get _ _ _ hxg, hnot, encBool])
      have fs : wr.frozen? ⟨w3.heap.size, x, none⟩ = false := free_of_blk HK.out.1
      have HX := Lib.hid hx
      have hset : Hid (LO w3 (wr.setCell ⟨w3.heap.size, x, none⟩ (.bool true)) g.length ((0 :: ns).take (k + 1))) := by
        refine ⟨?_, HK.out.2.setCell (Nat.le_refl _) _⟩
        rw [heap_setCell_self HK.out.1, List.take_add_one, HX.out]
        simp [marks_snoc, encBool, List.map_set]
      clear hx hxx hnot
      by_cases hk1 : k = 0
      · have hx0 := hk0 hk1
        have hkI : ((k : Int) == 0) = true := by rw [beq_iff_eq]; omega
        have hxI2 : ((x : Int) != 0) = false := by rw [bne_eq_false_iff_eq]; omega
        clear hk0 hk1 hx0
        go_wp2
        go_roundw
        case rel => exact ⟨k + 1, HLT.out, by go_num, hset⟩
        case measure => have := HLT.out; simp [intOf]; omega
      · have hkI : ((k : Int) == 0) = false := by rw [beq_eq_false_iff_ne]; omega
        clear hk0
        go_wp2
        go_roundw
        case rel => exact ⟨k + 1, HLT.out, by go_num, hset⟩
        case measure => have := HLT.out; simp [intOf]; omega
    · obtain rfl : k = ns.length + 1 := by omega
      have hltI : ¬ ((ns.length + 1 : Nat) : Int) < ns.length + 1 := by omega
      have hvr := hv3.out.below HK.out.2
      have cvr := hvr.cell
      have HVR := Lib.hid hvr
      clear hvr cv3
      have hs6 := HK.out.1
      rw [List.take_of_length_le (by simp)] at hs6
      have HS6 := Lib.hid hs6
      have hbk := Lib.hid HK.out.2
      clear hs6
      go_wp2_with (go_at_call 31; go_must (refine (ans_from0 HVR.out.2).mono ?_; rintro e w5 ⟨bs, rfl, hbs, hF, hb5⟩; rw [hfl]; have hv5 := Lib.hid (HVR.out.below hb5); have cv5 := hv5.out.cell; have hs5 := Lib.hid (below_blk hb5 HS6.out (lt_of_block HS6.out)); have hso5 := Lib.hid (((hso.out.below hbk.out).below (hb5.mono hbk.out.size)).mono (Nat.le_trans hbk.out.size hb5.size)); have hF5 := Lib.hid hF; have hb05 := Lib.hid ((hb03.out.trans (hbk.out.mono hb03.out.size)).trans (hb5.mono (Nat.le_trans hb03.out.size hbk.out.size))); clear cvr HVR hb5 HS6 hF HK hb03 hv3 hso hbk))
      go_loopw [57] (fun i wx => ∃ j : Nat, j ≤ g.length ∧ i = .int .i64 (j : Int) ∧ ∃ nd, wx = w5.drewN nd) (fun i _ => g.length - (intOf i).toNat)
      case atStart => exact ⟨0, Nat.zero_le _, rfl, 0, rfl⟩
      case round =>
        obtain ⟨j, hj, rfl, nd, rfl⟩ := hrel
        by_cases hlt : j < g.length
        · have hltI2 : (j : Int) < g.length := by omega
          have HLT := Lib.hid hlt
          obtain ⟨b0, hb0⟩ : ∃ b0, decide (j ∈ 0 :: ns) = b0 := ⟨_, rfl⟩
          have c1 : w5.cell? ⟨bs, j, none⟩ = some (.bool b0) := cell_of_blk (w := w5) hF5.out (by have := HSAME.out j hlt; rw [hb0] at this; simp [this, encBool])
          have c2 : w5.cell? ⟨w3.heap.size, j, none⟩ = some (.bool b0) := cell_of_blk (w := w5) hs5.out (by have := marks_get g.length (0 :: ns) j hlt; rw [hb0] at this; simp [this, encBool])
          clear hb0
          clear cv5
          cases b0 with
          | false =>
            go_wp2
            go_quiet (fail)
            go_wp2
            go_roundw
            case rel => exact ⟨j + 1, HLT.out, by go_num, _, rfl⟩
            case measure => have := HLT.out; simp [intOf]; omega
          | true =>
            go_wp2
            go_quiet (fail)
            go_wp2
            go_roundw
            case rel => exact ⟨j + 1, HLT.out, by go_num, _, rfl⟩
            case measure => have := HLT.out; simp [intOf]; omega
        · obtain rfl : j = g.length := by omega
          have hltI2 : ¬ (g.length : Int) < g.length := by omega
          have hb6 := below_drewN0 w5.heap.size w5 nd
          have hv6 := hv5.out.below hb6
          have hso6 := Lib.hid ((hso5.out.below hb6).mono hb6.size)
          have hb06 := Lib.hid (hb05.out.trans (hb6.mono hb05.out.size))
          obtain ⟨w6, hw6⟩ : ∃ w6, w5.drewN nd = w6 := ⟨_, rfl⟩
          rw [hw6] at hv6 hso6 hb06 ⊢
          have cv6 := hv6.cell
          have hv6 := Lib.hid hv6
          clear hw6 hb6 cv5
          go_wp2_with (first
            | (go_at_call 18; go_must (refine (ans_valid hv6.out.2).mono ?_; rintro e w7 ⟨rfl, hb7⟩; have hv7 := Lib.hid (hv6.out.below hb7); have cv7 := hv7.out.cell; have hso7 := Lib.hid ((hso6.out.below hb7).mono hb7.size); have hb07 := Lib.hid (hb06.out.trans (hb7.mono hb06.out.size)); clear hv6 cv6 hso6 hb06 hb7))
            | (go_at_call 22; go_must (refine (ans_ref_order hv7.out.2).mono ?_; rintro e w8 ⟨v8, rfl, ho8, hb8⟩; have hso8 := Lib.hid ((hso7.out.below hb8).mono hb8.size); rw [HO.out.eq] at ho8; have hs8 : SliceOf encNat _ _ v8 (0 :: ns) := sliceOf_own ho8 (Nat.le_refl _); have hb08 := Lib.hid (hb07.out.trans (hb8.mono hb07.out.size)); clear hv7 cv7 hso7 hb07 hb8 ho8))
            | (go_at_call 20; go_must (refine (intsN_true hso8.out hs8 (by simp only [List.length_cons]; omega) rfl).mono ?_; rintro e w9 ⟨rfl, hb9⟩)))
          go_ret
          exact ⟨rfl, hb08.out.trans (hb9.mono hb08.out.size)⟩
end Go.Proofs.Ytpfinkcnklkclaa
