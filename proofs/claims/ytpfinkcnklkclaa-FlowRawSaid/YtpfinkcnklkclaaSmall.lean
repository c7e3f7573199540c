/-
  The walk of the reference's Small.
-/
import Derived.Test.YtpfinkcnklkclaaRaw0
set_option linter.unusedVariables false
set_option linter.unusedSimpArgs false
namespace Go.Proofs.Ytpfinkcnklkclaa
open Go.RowKit

def smallL (g : List (List Int)) : List (List Int) := (g.take 24).map (List.take 6)
/-- The rows made so far; the variable out lies in block o. -/
structure SmMem (W wx : World) (B o : Nat) (hv : Value) (R : List (List Int)) : Prop where
  ex : ∃ vs : List Value, vs.length = R.length ∧ wx.ownsRow B 29 1 hv R.length vs ∧ ∀ (k : Nat) (v : Value) (row : List Int), vs[k]? = some v → R[k]? = some row → wx.ownsRow B 3 1 v row.length (row.map encInt)
  ho : wx.heap[o]? = some (.cells #[hv] 24 (0, 0))
  hb : Below o W wx
theorem SmMem.below {W wx w2 : World} {B o : Nat} {hv : Value} {R : List (List Int)} (h : SmMem W wx B o hv R) (hb : Below wx.heap.size wx w2) : SmMem W w2 B o hv R := by
  obtain ⟨⟨vs, h1, h2, h3⟩, h4, h5⟩ := h
  have ho := lt_of_block h4
  exact ⟨⟨vs, h1, ownsRow_below h2 hb (Nat.le_refl _), fun k v row hk hr => ownsRow_below (h3 k v row hk hr) hb (Nat.le_refl _)⟩, below_blk hb h4 ho, h5.trans (hb.mono (by omega))⟩
theorem SmMem.push {W wx w2 : World} {B o : Nat} {hv hv' lv : Value} {R : List (List Int)} {row : List Int} {vs : List Value} (h1 : vs.length = R.length) (h2 : wx.ownsRow B 29 1 hv R.length vs)
    (h3 : ∀ (k : Nat) (v : Value) (row : List Int), vs[k]? = some v → R[k]? = some row → wx.ownsRow B 3 1 v row.length (row.map encInt)) (h4 : wx.heap[o]? = some (.cells #[hv] 24 (0, 0))) (h5 : Below o W wx) (hoB : o < B)
    (hl : wx.ownsRow B 3 1 lv row.length (row.map encInt)) (ob : Obj) (hg : (wx.alloc ob).grownBy w2 hv.ownBlock) (hown : w2.ownsRow B 29 1 hv' (R.length + 1) (vs ++ [lv])) :
    SmMem W (w2.setCell ⟨o, 0, none⟩ hv') B o hv' (R ++ [row]) := by
  have ho := lt_of_block h4
  have key : ∀ {v : Value} {row : List Int}, wx.ownsRow B 3 1 v row.length (row.map encInt) → (w2.setCell ⟨o, 0, none⟩ hv').ownsRow B 3 1 v row.length (row.map encInt) := fun hv1 => ownsRow_setCell_below ((hv1.alloc ob).kept hg (ownsRow_apart hv1 h2 (by decide))) hoB _
  have hb2 := grown_blk hg (alloc_blk h4) (ownsRow_block_ne h2 h4 (.inl hoB))
  refine ⟨⟨vs ++ [lv], by simp [h1], by rw [List.length_append]; exact ownsRow_setCell_below hown hoB _, fun k v r hk hr => ?_⟩, ?_, ((h5.alloc (by omega) ob).grown hg (by simp; omega) (fun k e => by have := (h2.lt k e).1; omega)).setCell (show o ≤ o from Nat.le_refl _) _⟩
  · by_cases hkl : k < vs.length
    · rw [List.getElem?_append_left hkl] at hk
      rw [List.getElem?_append_left (by omega)] at hr
      exact key (h3 k v r hk hr)
    · rw [List.getElem?_append_right (by omega)] at hk
      rw [List.getElem?_append_right (by omega)] at hr
      have hk0 : k - vs.length = 0 := by have := (List.getElem?_eq_some_iff.1 hk).1; simp at this; omega
      rw [hk0] at hk
      rw [show k - R.length = 0 by omega] at hr
      simp at hk hr
      subst hk; subst hr
      exact key hl
  · rw [heap_setCell_self hb2]; simp
theorem SmMem.rows {W wx : World} {B o : Nat} {hv : Value} {R : List (List Int)} (h : SmMem W wx B o hv R) : RowsOf encInt wx wx.heap.size hv R := by
  obtain ⟨⟨vs, h1, h2, h3⟩, _, _⟩ := h
  refine ⟨vs, ?_, h1, fun k v row hk hr => sliceOf_own (h3 k v row hk hr) (Nat.le_refl _)⟩
  have := sliceOf_own (enc := id) (xs := vs) (by rw [List.map_id, h1]; exact h2) (Nat.le_refl wx.heap.size)
  exact this
/-- Rows in blocks from B on. -/
def SmOwn (wx : World) (B : Nat) (hv : Value) (R : List (List Int)) : Prop :=
  ∃ vs : List Value, vs.length = R.length ∧ wx.ownsRow B 29 1 hv R.length vs ∧ ∀ (k : Nat) (v : Value) (row : List Int), vs[k]? = some v → R[k]? = some row → wx.ownsRow B 3 1 v row.length (row.map encInt)
theorem SmOwn.rows {wx : World} {B : Nat} {hv : Value} {R : List (List Int)} (h : SmOwn wx B hv R) : RowsOf encInt wx wx.heap.size hv R := by
  obtain ⟨vs, h1, h2, h3⟩ := h
  refine ⟨vs, ?_, h1, fun k v row hk hr => sliceOf_own (h3 k v row hk hr) (Nat.le_refl _)⟩
  have := sliceOf_own (enc := id) (xs := vs) (by rw [List.map_id, h1]; exact h2) (Nat.le_refl wx.heap.size)
  exact this
theorem SmOwn.set {wx : World} {B b i : Nat} {hv : Value} {R : List (List Int)} (h : SmOwn wx B hv R) (hb : b < B) (x : Value) : SmOwn (wx.setCell ⟨b, i, none⟩ x) B hv R := by
  obtain ⟨vs, h1, h2, h3⟩ := h
  exact ⟨vs, h1, ownsRow_setCell_below h2 hb x, fun k v row hk hr => ownsRow_setCell_below (h3 k v row hk hr) hb x⟩
theorem SmOwn.mono {wx : World} {B B' : Nat} {hv : Value} {R : List (List Int)} (h : SmOwn wx B hv R) (hb : B' ≤ B) : SmOwn wx B' hv R := by
  obtain ⟨vs, h1, h2, h3⟩ := h
  exact ⟨vs, h1, ownsRow_mono h2 hb, fun k v row hk hr => ownsRow_mono (h3 k v row hk hr) hb⟩
theorem smallL_take (g : List (List Int)) {n : Nat} {row : List Int} (h : g[n]? = some row) : ((g.take (n + 1)).map (List.take 6)) = (g.take n).map (List.take 6) ++ [row.take 6] := by
  rw [List.take_add_one, h]; simp

set_option maxRecDepth 100000 in
set_option maxHeartbeats 1600000 in
theorem small_any {w : World} {sv : Value} {g : List (List Int)} (h : RowsOf encInt w w.heap.size sv g) (hgl : g.length ≤ 9223372036854775807) (hrl : ∀ row ∈ g, row.length ≤ 9223372036854775807) :
    Calls Try.prog 17 #[.agg #[sv]] w fun e w' => ∃ v, e = .returned (.agg #[v]) ∧ SmOwn w' w.heap.size v (smallL g) ∧ Below w.heap.size w w' := by
  obtain ⟨a, cap, rfl, hcap⟩ := h.form
  obtain ⟨ii, hii, hzi0, hzi1, hzi2⟩ := info_parts Try.info_int
  obtain ⟨ij, hij, hzj0, hzj1, hzj2⟩ := info_parts Try.info_ints
  obtain ⟨V, hV⟩ : ∃ V, ((w.alloc (.cells #[.slice a g.length cap] 24)).alloc (.cells #[.slice none 0 0] 24)).alloc (.cells #[.slice none 0 0] 24) = V := ⟨_, rfl⟩
  have hVb : Below w.heap.size w V := by rw [← hV]; exact (((Below.refl _ w).alloc (Nat.le_refl _) _).alloc (by simp) _).alloc (by simp; omega) _
  have hVs : V.heap.size = w.heap.size + 1 + 1 + 1 := by rw [← hV]; simp
  have cv2 : V.cell? ⟨w.heap.size, 0, none⟩ = some (.slice a g.length cap) := by rw [← hV]; exact cell_of_one (alloc_blk (alloc_blk (new_at rfl)))
  have hres : V.heap[w.heap.size + 1]? = some (.cells #[.slice none 0 0] 24 (0, 0)) := by rw [← hV]; exact alloc_blk (new_at (by simp))
  have hout : V.heap[w.heap.size + 1 + 1]? = some (.cells #[.slice none 0 0] 24 (0, 0)) := by rw [← hV]; exact new_at (by simp)
  have HV2 := Lib.hid (h.below hVb)
  have HRL := Lib.hid hrl
  have HVB := Lib.hid hVb
  have HRES := Lib.hid hres
  have HM0 : Hid (SmMem V V (w.heap.size + 1 + 1 + 1) (w.heap.size + 1 + 1) (.slice none 0 0) ((g.take 0).map (List.take 6))) := ⟨⟨[], by simp, by simpa using World.ownsRow_nil _ _ _ _, fun k v row hk => by simp at hk⟩, hout, Below.refl _ _⟩
  have HVS := Lib.hid hVs
  have HV := Lib.hid hV
  clear h hrl hVb hVs hres hV hout
  go_enter Try.func17, Try.ntmps17
  go_upto_region 2 with fail
  rw [HV.out]
  go_wp2
  go_loopw [4] (fun nv wr => ∃ (n : Nat) (hv : Value), n ≤ g.length ∧ n ≤ 24 ∧ nv = .int .i64 (n : Int) ∧ Hid (SmMem V wr (w.heap.size + 1 + 1 + 1) (w.heap.size + 1 + 1) hv ((g.take n).map (List.take 6)))) (fun nv _ => 24 - (intOf nv).toNat)
  case atStart => exact ⟨0, _, Nat.zero_le _, by omega, rfl, HM0⟩
  case round =>
    obtain ⟨n, hv, hn, hn24, rfl, HK⟩ := hrel
    have cgr := (HK.out.hb.cell (p := ⟨w.heap.size, 0, none⟩) (by show w.heap.size < w.heap.size + 1 + 1; omega)).trans cv2
    by_cases hlt : n < g.length ∧ n < 24
    · obtain ⟨hlt1, hlt2⟩ := hlt
      have hltI : (n : Int) < g.length := by omega
      have hltI2 : (n : Int) < 24 := by omega
      obtain ⟨row, hrow⟩ : ∃ row, g[n]? = some row := ⟨_, List.getElem?_eq_getElem hlt1⟩
      have hrl := HRL.out row (List.mem_of_getElem? hrow)
      obtain ⟨bg, og, a2, cap2, rfl, hbg, hc1, hcap2, hx⟩ := HV2.out.row hrow
      have hcr := (HK.out.hb.cell (p := ⟨bg, og + n, none⟩) (by show bg < w.heap.size + 1 + 1; omega)).trans hc1
      have HX := Lib.hid hx
      have HROW := Lib.hid hrow
      have HLT := Lib.hid (And.intro hlt1 hlt2)
      have hsV := HK.out.hb.size
      have hlo := lt_of_block HK.out.ho
      clear hrow hx hc1 hlt1 hlt2
      generalize hWr : wr = W at *
      clear hWr
      go_wp2
      go_loopw [5, 6] (fun lv kv wx => ∃ k : Nat, k ≤ row.length ∧ k ≤ 6 ∧ kv = .int .i64 (k : Int) ∧ Hid (wx.ownsRow W.heap.size 3 1 lv k ((row.take k).map encInt) ∧ Below W.heap.size W wx)) (fun _ kv _ => 6 - (intOf kv).toNat)
      case atStart => exact ⟨0, Nat.zero_le _, by omega, rfl, World.ownsRow_nil _ _ _ _, Below.refl _ _⟩
      case round =>
        obtain ⟨k, hk, hk6, rfl, HL⟩ := hrel
        have cgx := (HL.out.2.cell (p := ⟨w.heap.size, 0, none⟩) (by show w.heap.size < W.heap.size; omega)).trans cgr
        have hcx := (HL.out.2.cell (p := ⟨bg, og + n, none⟩) (by show bg < W.heap.size; omega)).trans hcr
        obtain ⟨la, lc, rfl⟩ := ownsRow_form HL.out.1
        by_cases hltk : k < row.length ∧ k < 6
        · obtain ⟨hk1, hk2⟩ := hltk
          have hkI : (k : Int) < row.length := by omega
          have hkI2 : (k : Int) < 6 := by omega
          have HLTK := Lib.hid (And.intro hk1 hk2)
          obtain ⟨s, hsk⟩ : ∃ s, row[k]? = some s := ⟨_, List.getElem?_eq_getElem hk1⟩
          obtain ⟨b2, o2, rfl, hb2, cs1⟩ := HX.out k s hsk
          have cs2 := (HL.out.2.cell (p := ⟨b2, o2 + k, none⟩) (by show b2 < W.heap.size; omega)).trans ((HK.out.hb.cell (p := ⟨b2, o2 + k, none⟩) (by show b2 < w.heap.size + 1 + 1; omega)).trans cs1)
          simp only [encInt] at cs2
          have htk : (row.take (k + 1)).map encInt = (row.take k).map encInt ++ [.int .i64 s] := by rw [List.take_add_one, hsk]; simp [encInt]
          have HTK := Lib.hid htk
          have hszL := HL.out.2.size
          clear hsk htk hk1 hk2 cs1
          go_wp2_with (at_builtin; go_must (refine wpList_append_lies _ rfl (.tmp 32) (.tmp 41) 29 rfl W.heap.size 3 ii (.int .i64 0) 1 8 Try.underlying29 hii hzi0 hzi1 hzi2 rfl (by decide) _ k ((row.take k).map encInt) rfl (HL.out.1.alloc _) ⟨wr.heap.size, 0, none⟩ 1 1 [.int .i64 s] rfl rfl (World.news_of_block (cs := #[.int .i64 s]) (new_at (by simp))) (by simp [Value.oneCell']) (by decide) (by unfold maxLen; omega) (by omega) (by simp; omega) (wr.heap.size + 1) (by simp) ?_; intro gq capq w6 hown6 hgrow6 hat6 hlt6; have HO6 := Lib.hid (And.intro hown6 hgrow6); clear hown6 hgrow6))
          go_roundw
          case rel =>
            refine ⟨k + 1, by have := HLTK.out; omega, by have := HLTK.out; omega, by go_num, ?_, (HL.out.2.alloc hszL _).grown HO6.out.2 (by simp; omega) (fun q e => (HL.out.1.lt q e).1)⟩
            rw [HTK.out]; exact HO6.out.1
          case measure => have := HLTK.out; simp [intOf]; omega
        · have htk6 : row.take 6 = row.take k := by
            by_cases e : k = 6
            · rw [e]
            · rw [List.take_of_length_le (by omega), List.take_of_length_le (by omega)]
          have hkl : (row.take 6).length = k := by rw [htk6, List.length_take]; omega
          have hHB := HK.out.below HL.out.2
          obtain ⟨vs, hv1, hv2, hv3⟩ := hHB.ex
          have hRl : ((g.take n).map (List.take 6)).length = n := by rw [List.length_map, List.length_take]; omega
          rw [hRl] at hv2
          obtain ⟨ha, hc, rfl⟩ := ownsRow_form hv2
          have co := cell_of_blk (i := 0) (v := .slice ha n hc) hHB.ho (by simp)
          have fo := free_of_blk (i := 0) hHB.ho
          have hlo2 := lt_of_block hHB.ho
          have hlB : wr.ownsRow (w.heap.size + 1 + 1 + 1) 3 1 (.slice la k lc) (row.take 6).length ((row.take 6).map encInt) := by rw [hkl, htk6]; exact ownsRow_mono HL.out.1 (by omega)
          have HH := Lib.hid (And.intro hHB (And.intro hv1 (And.intro hv2 (And.intro hv3 (And.intro hlB (And.intro hkl hRl))))))
          have nbo := ownsRow_block_ne hv2 hHB.ho (.inl (by omega))
          have hvl : vs.length ≤ 24 := by omega
          have hsw := HVS.out
          have co' : ∀ o, (wr.alloc o).cell? ⟨w.heap.size + 1 + 1, 0, none⟩ = some (.slice ha n hc) := fun o => (World.cell?_of_block (w := wr) (Below.heap_alloc _ _ _ hlo2)).trans co
          have fo' : ∀ o, (wr.alloc o).frozen? ⟨w.heap.size + 1 + 1, 0, none⟩ = false := fun o => (World.frozen?_of_block (w := wr) (Below.heap_alloc _ _ _ hlo2)).trans fo
          have hex : ¬ (k : Int) < row.length ∨ ((k : Int) < row.length ∧ ¬ (k : Int) < 6) := by omega
          clear htk6 hkl hHB hv1 hv2 hv3 hRl hlB hltk HX
          have hsz3 : w.heap.size + 1 + 1 < wr.heap.size := hlo2
          rcases hex with hex | ⟨hex1, hex2⟩
          all_goals go_wp2_with (at_builtin; go_must (refine wpList_append_lies _ rfl (.tmp 44) (.tmp 46) 22 rfl (w.heap.size + 1 + 1 + 1) 29 ij (.slice none 0 0) 1 24 Try.underlying22 hij hzj0 hzj1 hzj2 rfl (by decide) _ n vs rfl (HH.out.2.2.1.alloc _) ⟨wr.heap.size, 0, none⟩ 1 1 [.slice la k lc] rfl rfl (World.news_of_block (cs := #[.slice la k lc]) (new_at (by simp))) (by simp [Value.oneCell']) (by decide) (by unfold maxLen; omega) (by omega) (by simp; omega) (wr.heap.size + 1) (by simp) ?_; intro gq capq w6 hown6 hgrow6 hat6 hlt6; have co6 := (hgrow6.cell_far ⟨w.heap.size + 1 + 1, 0, none⟩ (by simp; omega) (Ne.symm nbo)).trans (co' _); have fo6 := (hgrow6.frozen_far ⟨w.heap.size + 1 + 1, 0, none⟩ (by simp; omega) (Ne.symm nbo)).trans (fo' _); have HO6 := Lib.hid (And.intro hown6 hgrow6); clear hown6 hgrow6))
          all_goals go_roundw
          all_goals first
            | (have := HLT.out; simp [intOf]; omega)
            | (refine ⟨n + 1, .slice (some ⟨gq, 0, none⟩) (n + 1) capq, by have := HLT.out; omega, by have := HLT.out; omega, by go_num, ?_⟩
               rw [smallL_take g HROW.out]
               exact SmMem.push HH.out.2.1 (by rw [HH.out.2.2.2.2.2.2]; exact HH.out.2.2.1) HH.out.2.2.2.1 HH.out.1.ho HH.out.1.hb (by omega) HH.out.2.2.2.2.1 _ HO6.out.2 (by rw [HH.out.2.2.2.2.2.2]; exact HO6.out.1))
    · have htk : (g.take n).map (List.take 6) = smallL g := by
        unfold smallL
        by_cases e : n = 24
        · rw [e]
        · rw [List.take_of_length_le (by omega), List.take_of_length_le (by omega)]
      rw [htk] at HK
      have hrw := HK.out.rows
      obtain ⟨ha, hc, rfl, _⟩ := hrw.form
      have co := cell_of_blk (i := 0) (v := .slice ha (smallL g).length hc) HK.out.ho (by simp)
      have hrb := below_blk HK.out.hb HRES.out (by omega)
      have cgs : wr.cell? ⟨w.heap.size + 1, 0, none⟩ = some (.slice none 0 0) := cell_of_blk hrb (by simp)
      have fgs : wr.frozen? ⟨w.heap.size + 1, 0, none⟩ = false := free_of_blk hrb
      have cgs2 : (wr.setCell ⟨w.heap.size + 1, 0, none⟩ (.slice ha (smallL g).length hc)).cell? ⟨w.heap.size + 1, 0, none⟩ = some (.slice ha (smallL g).length hc) := cell_of_blk (heap_setCell_self hrb _) (by simp)
      have HRW := Lib.hid hrw
      have hsw := HVS.out
      have hex : ¬ (n : Int) < g.length ∨ ((n : Int) < g.length ∧ ¬ (n : Int) < 24) := by omega
      clear htk hrw hrb hlt
      rcases hex with hex | ⟨hex1, hex2⟩
      all_goals go_wp2
      all_goals try simp only [Exit.inBlock, Exit.then]
      all_goals refine bodyPost_ret (v := .agg #[.slice ha (smallL g).length hc]) ?_ rfl ?_
      all_goals first
        | (rw [results_cell1 rfl]; go_simp; done)
        | (refine ⟨_, rfl, ?_, (HVB.out.trans (HK.out.hb.mono (by omega))).setCell (by show w.heap.size ≤ w.heap.size + 1; omega) _⟩
           exact (SmOwn.set HK.out.ex (by omega) _).mono (by omega))
end Go.Proofs.Ytpfinkcnklkclaa
