/-
  The walk of the reference's Reducible.
-/
import Derived.Test.YtpfinkcnklkclaaRLoop
import Derived.Test.YtpfinkcnklkclaaMath
import Derived.Test.YtpfinkcnklkclaaTail
set_option linter.unusedVariables false
set_option linter.unusedSimpArgs false
namespace Go.Proofs.Ytpfinkcnklkclaa
open Go.RowKit

def edRowTo (g : List (List Nat)) (u k : Nat) : List Bool := ((succ g u).take k).foldl (fun row s => row.set s (fromB g 0 (-1) u && decide (s ≠ u))) (List.replicate g.length false)
theorem edRowTo_succ {g : List (List Nat)} {u k s : Nat} (hs : (succ g u)[k]? = some s) : edRowTo g u (k + 1) = (edRowTo g u k).set s (fromB g 0 (-1) u && decide (s ≠ u)) := by
  unfold edRowTo; rw [List.take_add_one, hs, List.foldl_append]; rfl
theorem edRowTo_len (g : List (List Nat)) (u k : Nat) : (edRowTo g u k).length = g.length := by
  unfold edRowTo
  exact (row_fold (fun s => fromB g 0 (-1) u && decide (s ≠ u)) g.length _ _ (by simp)).1
theorem edRowTo_full {g : List (List Nat)} {u k : Nat} (hk : (succ g u).length = k) : edRowTo g u k = edRow g u := by
  unfold edRowTo edRow; rw [List.take_of_length_le (by omega)]

/-- The rows of a matrix, each in a block of its own, from block S on. -/
structure EdRows (w : World) (S size : Nat) (ov : Value) (rows : List (List Bool)) : Prop where
  ex : ∃ bs : List Nat, bs.length = rows.length ∧ bs.Nodup ∧ (∀ b ∈ bs, S ≤ b) ∧ w.ownsRow S 36 1 ov rows.length (bs.map fun b => Value.slice (some ⟨b, 0, none⟩) size size) ∧
    ∀ (k b : Nat) (row : List Bool), bs[k]? = some b → rows[k]? = some row → w.heap[b]? = some (.cells (row.map encBool).toArray 4 (0, 0))
theorem EdRows.nil (w : World) (S size : Nat) : EdRows w S size (.slice none 0 0) [] := ⟨[], rfl, List.nodup_nil, by simp, World.ownsRow_nil _ _ _ _, by simp⟩
theorem EdRows.below {w w' : World} {S size : Nat} {ov : Value} {rows : List (List Bool)} (h : EdRows w S size ov rows) (hb : Below w.heap.size w w') : EdRows w' S size ov rows := by
  obtain ⟨bs, h1, h2, h3, h4, h5⟩ := h
  exact ⟨bs, h1, h2, h3, ownsRow_below h4 hb (Nat.le_refl _), fun k b row hk hr => below_blk hb (h5 k b row hk hr) (lt_of_block (h5 k b row hk hr))⟩
theorem EdRows.own {w : World} {S size : Nat} {ov : Value} {rows : List (List Bool)} (h : EdRows w S size ov rows) : ∃ xs, w.ownsRow S 36 1 ov rows.length xs := let ⟨bs, _, _, _, h4, _⟩ := h; ⟨_, h4⟩
/-- One row more. -/
theorem EdRows.push {w w2 : World} {S size : Nat} {ov ov' : Value} {rows : List (List Bool)} {bs : List Nat} (h1 : bs.length = rows.length) (h2 : bs.Nodup) (h3 : ∀ b ∈ bs, S ≤ b) (h4 : w.ownsRow S 36 1 ov rows.length (bs.map fun b => Value.slice (some ⟨b, 0, none⟩) size size))
    (h5 : ∀ (k b : Nat) (row : List Bool), bs[k]? = some b → rows[k]? = some row → w.heap[b]? = some (.cells (row.map encBool).toArray 4 (0, 0)))
    {b : Nat} {row : List Bool} (hb : b ∉ bs) (hS : S ≤ b) (hr : w.heap[b]? = some (.cells (row.map encBool).toArray 4 (0, 0))) (o : Obj) (hg : (w.alloc o).grownBy w2 ov.ownBlock)
    (ho : w2.ownsRow S 36 1 ov' (rows.length + 1) ((bs.map fun b => Value.slice (some ⟨b, 0, none⟩) size size) ++ [.slice (some ⟨b, 0, none⟩) size size])) : EdRows w2 S size ov' (rows ++ [row]) := by
  have keep : ∀ {b : Nat} {cs : Array Value}, w.heap[b]? = some (.cells cs 4 (0, 0)) → w2.heap[b]? = some (.cells cs 4 (0, 0)) := fun hb => grown_blk hg (alloc_blk hb) (ownsRow_block_ne h4 hb (.inr (by decide)))
  refine ⟨bs ++ [b], by simp [h1], ?_, ?_, by simpa using ho, fun k c r hk hrk => ?_⟩
  · rw [List.nodup_append]
    exact ⟨h2, by simp, fun x hx y hy => by simp at hy; subst hy; rintro rfl; exact hb hx⟩
  · intro c hc
    rcases List.mem_append.1 hc with hc | hc
    · exact h3 c hc
    · simp at hc; subst hc; exact hS
  · by_cases hkl : k < bs.length
    · rw [List.getElem?_append_left hkl] at hk
      rw [List.getElem?_append_left (by omega)] at hrk
      exact keep (h5 k c r hk hrk)
    · rw [List.getElem?_append_right (by omega)] at hk
      rw [List.getElem?_append_right (by omega)] at hrk
      have hk0 : k - bs.length = 0 := by have := (List.getElem?_eq_some_iff.1 hk).1; simp at this; omega
      rw [hk0] at hk
      rw [show k - rows.length = 0 by omega] at hrk
      simp at hk hrk
      subst hk; subst hrk
      exact keep hr
/-- One cell: how to read it, and what a store leaves. -/
theorem EdRows.cell {w : World} {S size : Nat} {ov : Value} {rows : List (List Bool)} (h : EdRows w S size ov rows) {p s : Nat} (hp : p < rows.length) (hs : s < (rows.getD p []).length) :
    ∃ (e cap b : Nat), ov = .slice (some ⟨e, 0, none⟩) rows.length cap ∧ S ≤ e ∧ e < w.heap.size ∧ w.cell? ⟨e, p, none⟩ = some (.slice (some ⟨b, 0, none⟩) size size) ∧ S ≤ b ∧ b < w.heap.size ∧ w.cell? ⟨b, s, none⟩ = some (.bool (eget rows p s)) ∧ w.frozen? ⟨b, s, none⟩ = false ∧
      ∀ x : Bool, EdRows (w.setCell ⟨b, s, none⟩ (.bool x)) S size ov (eset rows p s x) := by
  obtain ⟨bs, h1, h2, h3, h4, h5⟩ := h
  obtain ⟨e, cap, rfl, he, hel⟩ := h4.form (by omega)
  obtain ⟨b, hb⟩ : ∃ b, bs[p]? = some b := ⟨_, List.getElem?_eq_getElem (by omega)⟩
  obtain ⟨row, hrow⟩ : ∃ row, rows[p]? = some row := ⟨_, List.getElem?_eq_getElem hp⟩
  have hgd : rows.getD p [] = row := by rw [List.getD_eq_getElem?_getD, hrow]; rfl
  rw [hgd] at hs
  have hblk := h5 p b row hb hrow
  have hce : w.cell? ⟨e, p, none⟩ = some (.slice (some ⟨b, 0, none⟩) size size) := (h4.cellAt p (by omega)).trans (by simp [hb])
  refine ⟨e, cap, b, rfl, he, hel, hce, h3 b (List.mem_of_getElem? hb), lt_of_block hblk, cell_of_blk hblk ?_, free_of_blk hblk, fun x => ?_⟩
  · unfold eget
    rw [hgd, List.getD_eq_getElem?_getD]
    simp [List.getElem?_eq_getElem hs, encBool]
  · have hne : (Value.slice (some ⟨e, 0, none⟩) rows.length cap).ownBlock ≠ some b := ownsRow_block_ne h4 hblk (.inr (by decide))
    refine ⟨bs, by simp [eset, h1], h2, h3, ?_, fun k c r hk hrk => ?_⟩
    · have hl : (eset rows p s x).length = rows.length := by simp [eset]
      rw [hl]
      exact ownsRow_setCell_other h4 hne _
    · unfold eset at hrk
      by_cases e2 : p = k
      · subst e2
        rw [hb] at hk
        cases hk
        rw [List.getElem?_set_self hp, hgd] at hrk
        cases hrk
        rw [heap_setCell_self hblk]
        simp [encBool, List.map_set]
      · rw [List.getElem?_set_ne e2] at hrk
        refine set_blk (h5 k c r hk hrk) (fun e3 => e2 ?_)
        simp at e3
        subst e3
        exact (List.getElem?_inj (List.getElem?_eq_some_iff.1 hb).1 h2).1 (by rw [hb, hk])
theorem EdRows.setOther {w : World} {S size : Nat} {ov : Value} {rows : List (List Bool)} (h : EdRows w S size ov rows) {b i : Nat} (hb : b < S) (x : Value) : EdRows (w.setCell ⟨b, i, none⟩ x) S size ov rows := by
  obtain ⟨bs, h1, h2, h3, h4, h5⟩ := h
  refine ⟨bs, h1, h2, h3, ownsRow_setCell_other h4 (fun e => by have := (h4.lt _ e).1; simp at this; omega) _, fun k c r hk hr => set_blk (h5 k c r hk hr) (fun e => ?_)⟩
  have := h3 c (List.mem_of_getElem? hk)
  simp at e
  omega
theorem EdRows.drewN {w : World} {S size n : Nat} {ov : Value} {rows : List (List Bool)} (h : EdRows w S size ov rows) : EdRows (w.drewN n) S size ov rows := ⟨h.ex⟩
theorem edL_take (g : List (List Nat)) {u : Nat} (hu : u < g.length) : (edL g).take (u + 1) = (edL g).take u ++ [edRow g u] := by
  rw [List.take_add_one]; unfold edL; rw [List.getElem?_map, List.getElem?_range hu]; rfl
theorem edL_len (g : List (List Nat)) : (edL g).length = g.length := by simp [edL]
theorem count_le (l : List Bool) : l.count true ≤ l.length := List.count_le_length

/-- The memory of the reduction. -/
structure RM (w1 wx : World) (ab S n e cap : Nat) (al : List Bool) (ed : List (List Bool)) : Prop where
  ed : EdRows wx S n (.slice (some ⟨e, 0, none⟩) n cap) ed
  al : wx.heap[ab]? = some (.cells (al.map encBool).toArray 4 (0, 0))
  hb : Below w1.heap.size w1 wx
theorem RM.drewN {w1 wx : World} {ab S n e cap : Nat} {al : List Bool} {ed : List (List Bool)} (h : RM w1 wx ab S n e cap al ed) (k : Nat) : RM w1 (wx.drewN k) ab S n e cap al ed := ⟨h.ed.drewN, h.al, below_drewN h.hb⟩
theorem RM.cell {w1 wx : World} {ab S n e cap : Nat} {al : List Bool} {ed : List (List Bool)} (h : RM w1 wx ab S n e cap al ed) (hab : ab < S) (hS : w1.heap.size ≤ S) (hsq : Sq n ed) {p s : Nat} (hp : p < n) (hs : s < n) :
    ∃ b, wx.cell? ⟨e, p, none⟩ = some (.slice (some ⟨b, 0, none⟩) n n) ∧ wx.cell? ⟨b, s, none⟩ = some (.bool (eget ed p s)) ∧ wx.frozen? ⟨b, s, none⟩ = false ∧ ∀ (k : Nat) (x : Bool), RM w1 ((wx.drewN k).setCell ⟨b, s, none⟩ (.bool x)) ab S n e cap al (eset ed p s x) := by
  obtain ⟨e', cap', b, e1, _, _, h1, h2, h3, h4, h5, h6⟩ := h.ed.cell (p := p) (s := s) (by rw [hsq.1]; exact hp) (by rw [hsq.2 p hp]; exact hs)
  rw [hsq.1] at e1
  cases e1
  exact ⟨b, h1, h4, h5, fun k x => ⟨⟨(h6 x).ex⟩, set_blk (W := wx.drewN k) h.al (by show ab ≠ b; omega), (below_drewN h.hb).setCell (by show w1.heap.size ≤ b; omega) _⟩⟩
theorem RM.setAl {w1 wx : World} {ab S n e cap : Nat} {al : List Bool} {ed : List (List Bool)} (h : RM w1 wx ab S n e cap al ed) (hab : ab < S) (h1 : w1.heap.size ≤ ab) (m : Nat) (x : Bool) : RM w1 (wx.setCell ⟨ab, m, none⟩ (.bool x)) ab S n e cap (al.set m x) ed := by
  refine ⟨h.ed.setOther hab _, ?_, h.hb.setCell h1 _⟩
  rw [heap_setCell_self h.al]
  simp [encBool, List.map_set]
def psTo (ed : List (List Bool)) (m p : Nat) : List Nat := (List.range p).filter (fun q => eget ed q m)
theorem psTo_succ (ed : List (List Bool)) (m p : Nat) : psTo ed m (p + 1) = psTo ed m p ++ if eget ed p m then [p] else [] := by
  unfold psTo
  rw [List.range_succ, List.filter_append]
  congr 1
  cases h : eget ed p m <;> simp [h]
theorem psTo_len (ed : List (List Bool)) (m p : Nat) : (psTo ed m p).length ≤ p := by
  have := List.length_filter_le (fun q => eget ed q m) (List.range p)
  rw [List.length_range] at this; exact this
def lastI (l : List Nat) : Int := if l.isEmpty then -1 else (l.getLastD 0 : Nat)
theorem lastI_snoc (l : List Nat) (p : Nat) : lastI (l ++ [p]) = (p : Int) := by
  unfold lastI
  rw [if_neg (by simp), List.getLastD_concat]
theorem range_drop (m : Nat) (h : 1 ≤ m) : (List.range (m + 1)).drop 1 = (List.range m).drop 1 ++ [m] := by
  rw [List.range_succ, List.drop_append_of_le_length (by simpa using h)]
theorem getD_of {al : List Bool} {m : Nat} {b : Bool} (h : al[m]? = some b) : al.getD m false = b := by rw [List.getD_eq_getElem?_getD, h]; rfl
/-- The state before node m of a pass. -/
def passTo (n : Nat) (al : List Bool) (ed : List (List Bool)) (left : Int) (m : Nat) : List Bool × List (List Bool) × Int × Bool := ((List.range m).drop 1).foldl (redStep n) (al, ed, left, false)
theorem passTo_succ (n : Nat) (al : List Bool) (ed : List (List Bool)) (left : Int) {m : Nat} (h : 1 ≤ m) : passTo n al ed left (m + 1) = redStep n (passTo n al ed left m) m := by
  unfold passTo; rw [range_drop m h, List.foldl_append]; rfl

set_option maxRecDepth 100000 in
set_option maxHeartbeats 3200000 in
theorem ans_ref_reducible {w : World} {sv : Value} {g : List (List Nat)} (h : GraphIn w sv g) : Calls Try.prog 29 #[.agg #[sv]] w fun e w' => e = .returned (.bool (redF g)) ∧ Below w.heap.size w w' := by
  obtain ⟨a, cap, rfl, hcap⟩ := h.rows.form
  obtain ⟨bg, og, rfl⟩ : ∃ bg og, a = some ⟨bg, og, none⟩ := by
    obtain ⟨b, o, _, _, e, _⟩ := h.rows.row (List.getElem?_eq_getElem h.valid.1); exact ⟨b, o, e⟩
  have hn := h.len
  have hv := h.valid
  have hgp : 0 < g.length := hv.1
  have hmk := run_make_row' (P := Try.prog) 36 4 (.bool false) 1 Try.underlying36 Try.info_bool rfl .i64 .i64 g.length (by omega) (by omega)
  have h1 := h.below ((Below.refl _ w).alloc (Nat.le_refl _) (.cells #[.slice (some ⟨bg, og, none⟩) g.length cap] 24))
  have cg : (w.alloc (.cells #[.slice (some ⟨bg, og, none⟩) g.length cap] 24)).cell? ⟨w.heap.size, 0, none⟩ = some (.slice (some ⟨bg, og, none⟩) g.length cap) := cell_of_one (new_at rfl)
  have H1 := Lib.hid h1
  have HV := Lib.hid hv
  have HRL := Lib.hid h.row
  clear h h1 hv
  go_enter Try.func29, Try.ntmps29
  go_wp2_with (first
    | (go_at_call 19; go_must (refine (ans_ref_valid H1.out).mono ?_; rintro e w1 ⟨rfl, hb1⟩; have cg1 := (hb1.cell (p := ⟨w.heap.size, 0, none⟩) (by simp)).trans cg; have HG1 := Lib.hid (H1.out.below hb1); have hw1 := Lib.hid (((Below.refl _ w).alloc (Nat.le_refl _) _).trans (hb1.mono (by simp))); have hl1 : w.heap.size < w1.heap.size := World.block_lt_of_cell? w1 _ cg1; clear cg hb1))
    | (go_at_call 31; go_must (refine (ans_fromI HG1.out (-1)).mono ?_; rintro e w2 ⟨ab, rfl, hab, hA, hb2⟩; rw [fromL_len HV.out HV.out.1]; have cg2 := (hb2.cell (p := ⟨w.heap.size, 0, none⟩) hl1).trans cg1; have HG2 := Lib.hid (HG1.out.below hb2); have HA := Lib.hid hA; have HB2 := Lib.hid hb2; have hl2 : w.heap.size < w2.heap.size := World.block_lt_of_cell? w2 _ cg2; clear cg1 hb2 hA)))
  have hab2 := lt_of_block HA.out
  go_loopw [6, 7] (fun ov uv wr => ∃ u : Nat, u ≤ g.length ∧ uv = .int .i64 (u : Int) ∧ Hid (EdRows wr w2.heap.size g.length ov ((edL g).take u) ∧ Below w2.heap.size w2 wr)) (fun _ uv _ => g.length - (intOf uv).toNat)
  case atStart => exact ⟨0, Nat.zero_le _, rfl, EdRows.nil _ _ _, Below.refl _ _⟩
  case round =>
    obtain ⟨u, hu, rfl, HK⟩ := hrel
    have cgr := (HK.out.2.cell (p := ⟨w.heap.size, 0, none⟩) hl2).trans cg2
    have HAr := Lib.hid (below_blk HK.out.2 HA.out hab2)
    have hsr : w.heap.size < wr.heap.size := World.block_lt_of_cell? wr _ cgr
    obtain ⟨xs0, hxs0⟩ := HK.out.1.own
    obtain ⟨ao, co, rfl⟩ := ownsRow_form hxs0
    clear hxs0
    by_cases hlt : u < g.length
    · have hltI : (u : Int) < g.length := by omega
      have HLT := Lib.hid hlt
      have HG := Lib.hid (HG2.out.below HK.out.2)
      obtain ⟨row, hrow⟩ : ∃ row, g[u]? = some row := ⟨_, List.getElem?_eq_getElem hlt⟩
      have hsucc : succ g u = row := by unfold succ; rw [List.getD_eq_getElem?_getD, hrow]; rfl
      have hrl := HRL.out row (List.mem_of_getElem? hrow)
      have HROW := Lib.hid (And.intro hrow hsucc)
      obtain ⟨q0, hq0⟩ : ∃ q0, fromB g 0 (-1) u = q0 := ⟨_, rfl⟩
      have HQ0 := Lib.hid hq0
      have hsab : ab < wr.heap.size := by have := HK.out.2.size; omega
      clear cg2 hlt hrow hsucc hq0
      generalize hW : wr = W at *
      clear hW
      have htl : ((edL g).take u).length = u := by rw [List.length_take, edL_len]; have := HLT.out; omega
      rw [htl]
      go_wp2
      go_loopw [9] (fun kv wx => ∃ k : Nat, k ≤ row.length ∧ kv = .int .i64 (k : Int) ∧ Hid (wx.heap[W.heap.size]? = some (.cells ((edRowTo g u k).map encBool).toArray 4 (0, 0)) ∧ Below W.heap.size W wx)) (fun kv _ => row.length - (intOf kv).toNat)
      case atStart =>
        refine ⟨0, Nat.zero_le _, rfl, ?_, (Below.refl _ _).alloc (Nat.le_refl _) _⟩
        rw [new_at rfl, toArray_madeCells]; simp [edRowTo, encBool]
      case round =>
        obtain ⟨k, hk, rfl, HX⟩ := hrel
        have cgx := (HX.out.2.cell (p := ⟨w.heap.size, 0, none⟩) hsr).trans cgr
        have HGx := Lib.hid (HG.out.below HX.out.2)
        obtain ⟨bg', og', a2, cap2, e', hbg', hc', _, hx'⟩ := HGx.out.rows.row HROW.out.1
        cases e'
        by_cases hltk : k < row.length
        · have hltkI : (k : Int) < row.length := by omega
          have HLTK := Lib.hid hltk
          obtain ⟨s, hsk⟩ : ∃ s, row[k]? = some s := ⟨_, List.getElem?_eq_getElem hltk⟩
          obtain ⟨b2, o2, rfl, hb2, cs1⟩ := hx' k s hsk
          simp only [encNat] at cs1
          have hsg : s < g.length := HV.out.2 row (List.mem_of_getElem? HROW.out.1) s (List.mem_of_getElem? hsk)
          have hsgI : (s : Int) < g.length := by omega
          have cA : wr.cell? ⟨ab, u, none⟩ = some (.bool q0) := cell_of_blk (below_blk HX.out.2 HAr.out hsab) (by have := fromB_get HV.out HV.out.1 (-1) HLT.out; rw [HQ0.out] at this; simp [this, encBool])
          obtain ⟨t0, ht0⟩ : ∃ t0, (edRowTo g u k)[s]? = some t0 := ⟨_, List.getElem?_eq_getElem (by rw [edRowTo_len]; exact hsg)⟩
          have ctl : wr.cell? ⟨W.heap.size, s, none⟩ = some (.bool t0) := cell_of_blk HX.out.1 (by simp [ht0, encBool])
          have ftl : wr.frozen? ⟨W.heap.size, s, none⟩ = false := free_of_blk HX.out.1
          have hrs := edRowTo_succ (g := g) (u := u) (by rw [HROW.out.2]; exact hsk)
          rw [HQ0.out] at hrs
          have hset : ∀ (nq : Nat) (b : Bool), (q0 && decide (s ≠ u)) = b → Hid (((wr.drewN nq).setCell ⟨W.heap.size, s, none⟩ (.bool b)).heap[W.heap.size]? = some (.cells ((edRowTo g u (k + 1)).map encBool).toArray 4 (0, 0)) ∧ Below W.heap.size W ((wr.drewN nq).setCell ⟨W.heap.size, s, none⟩ (.bool b))) := fun nq b hb => by
            refine ⟨?_, (below_drewN HX.out.2).setCell (Nat.le_refl _) _⟩
            rw [heap_setCell_self (w := wr.drewN nq) HX.out.1, hrs, hb]
            simp [encBool, List.map_set]
          have HSET := Lib.hid hset
          clear hset hrs ht0 hsk hx' hltk hsg hb2 hbg'
          cases q0 with
          | false =>
            go_wp2
            refine wp_region_quiet_tail 26 (by kernel_rfl) (by kernel_rfl) ?_
            simp only [List.take_succ_cons, List.take_zero, List.drop_succ_cons, List.drop_zero]
            repeat (go_big_quiet_step (fail))
            refine wpQuiet_nil ?_
            go_wp2
            go_roundw
            case rel => exact ⟨k + 1, HLTK.out, by go_num, HSET.out 1 _ (by rfl)⟩
            case measure => have := HLTK.out; simp [intOf]; omega
          | true =>
            by_cases hsu : s = u
            · have htst : ((s : Int) != (u : Int)) = false := by rw [bne_eq_false_iff_eq]; omega
              have HSU := Lib.hid hsu
              clear hsu
              go_wp2
              refine wp_region_quiet_tail 26 (by kernel_rfl) (by kernel_rfl) ?_
              simp only [List.take_succ_cons, List.take_zero, List.drop_succ_cons, List.drop_zero]
              repeat (go_big_quiet_step (fail))
              refine wpQuiet_nil ?_
              go_wp2
              go_roundw
              case rel => exact ⟨k + 1, HLTK.out, by go_num, HSET.out 1 _ (by rw [decide_eq_false (fun h => h HSU.out)]; rfl)⟩
              case measure => have := HLTK.out; simp [intOf]; omega
            · have htst : ((s : Int) != (u : Int)) = true := by rw [bne_iff_ne]; omega
              have HSU := Lib.hid hsu
              clear hsu
              go_wp2
              refine wp_region_quiet_tail 26 (by kernel_rfl) (by kernel_rfl) ?_
              simp only [List.take_succ_cons, List.take_zero, List.drop_succ_cons, List.drop_zero]
              repeat (go_big_quiet_step (fail))
              refine wpQuiet_nil ?_
              go_wp2
              go_roundw
              case rel => exact ⟨k + 1, HLTK.out, by go_num, HSET.out 1 _ (by rw [decide_eq_true HSU.out]; rfl)⟩
              case measure => have := HLTK.out; simp [intOf]; omega
        · obtain rfl : k = row.length := by omega
          have hltkI : ¬ (row.length : Int) < row.length := by omega
          obtain ⟨ii, hii, hzi0, hzi1, hzi2⟩ := info_parts Try.info_bools
          obtain ⟨bs, h1, h2, h3, h4, h5⟩ := HK.out.1.ex
          rw [htl] at h1 h4
          have hbl : bs.length ≤ 2000000 := by have := HLT.out; omega
          have hnb : W.heap.size ∉ bs := by
            intro hc
            obtain ⟨k, hk⟩ := List.getElem?_of_mem hc
            have hkl := (List.getElem?_eq_some_iff.1 hk).1
            have := lt_of_block (h5 k _ ((edL g).take u)[k] hk (List.getElem?_eq_getElem (by rw [htl]; omega)))
            omega
          have h4' := ownsRow_below h4 HX.out.2 (Nat.le_refl _)
          have h5' : ∀ (k b : Nat) (row : List Bool), bs[k]? = some b → ((edL g).take u)[k]? = some row → wr.heap[b]? = some (.cells (row.map encBool).toArray 4 (0, 0)) := fun k b r hk hr => below_blk HX.out.2 (h5 k b r hk hr) (lt_of_block (h5 k b r hk hr))
          have hrx := HX.out.1
          have hl2 : (succ g u).length = row.length := by rw [HROW.out.2]
          rw [edRowTo_full hl2] at hrx
          have HEX5 := Lib.hid (And.intro h1 (And.intro h2 (And.intro h3 (And.intro h4' (And.intro h5' (And.intro hnb hrx))))))
          have hsx := lt_of_block hrx
          have hs0 := HK.out.2.size
          clear h1 h2 h3 h4 h5 h4' h5' hnb hrx hl2
          go_wp2_with (at_builtin; go_must (refine wpList_append_lies _ rfl (.tmp 70) (.tmp 72) 41 rfl w2.heap.size 36 ii (.slice none 0 0) 1 24 Try.underlying41 hii hzi0 hzi1 hzi2 rfl (by decide) _ u (bs.map fun b => Value.slice (some ⟨b, 0, none⟩) g.length g.length) rfl (HEX5.out.2.2.2.1.alloc _) ⟨wr.heap.size, 0, none⟩ 1 1 [.slice (some ⟨W.heap.size, 0, none⟩) g.length g.length] rfl rfl (World.news_of_block (cs := #[.slice (some ⟨W.heap.size, 0, none⟩) g.length g.length]) (new_at (by simp))) (by simp [Value.oneCell']) (by decide) (by unfold maxLen; omega) (by omega) (by simp; omega) (wr.heap.size + 1) (by simp) ?_; intro gq capq w6 hown6 hgrow6 hat6 hlt6; have HO6 := Lib.hid (And.intro hown6 hgrow6); clear hown6 hgrow6))
          go_roundw
          case rel =>
            refine ⟨u + 1, HLT.out, by go_num, ?_, ((HK.out.2.trans (HX.out.2.mono hs0)).alloc (by omega) _).grown HO6.out.2 (by simp; omega) (fun k hk => (HEX5.out.2.2.2.1.lt k hk).1)⟩
            rw [edL_take g HLT.out]
            refine EdRows.push (by rw [htl]; exact HEX5.out.1) HEX5.out.2.1 HEX5.out.2.2.1 (by rw [htl]; exact HEX5.out.2.2.2.1) HEX5.out.2.2.2.2.1 HEX5.out.2.2.2.2.2.1 hs0 HEX5.out.2.2.2.2.2.2 _ HO6.out.2 ?_
            rw [htl]; exact HO6.out.1
          case measure => have := HLT.out; simp [intOf]; omega
    · obtain rfl : u = g.length := by omega
      have hltI : ¬ (g.length : Int) < g.length := by omega
      have hed := HK.out.1
      rw [List.take_of_length_le (by rw [edL_len]; omega)] at hed ⊢
      rw [edL_len] at hed ⊢
      obtain ⟨xs1, hxs1⟩ := hed.own
      rw [edL_len] at hxs1
      obtain ⟨ee, ec, hee, _, _⟩ := hxs1.form hgp
      cases hee
      clear hxs1
      have HED := Lib.hid hed
      have HBK := Lib.hid HK.out.2
      clear hed HK cg2
      generalize hW : wr = W3 at *
      clear hW
      have HRS := Lib.hid (start_rs HV.out)
      have hedl := edL_len g
      obtain ⟨k0, L, hrun, hL⟩ := red_agree HV.out
      have HRUN := Lib.hid (And.intro hrun hL)
      clear hrun hL
      go_wp2
      go_loopw [10, 11] (fun lv mv wx => ∃ m : Nat, m ≤ g.length ∧ mv = .int .i64 (m : Int) ∧ lv = .int .i64 (((fromL g 0 (-1)).take m).count true : Nat) ∧ wx = W3) (fun _ mv _ => g.length - (intOf mv).toNat)
      case atStart => exact ⟨0, Nat.zero_le _, rfl, by simp, rfl⟩
      case round =>
        obtain ⟨m, hm, rfl, rfl, rfl⟩ := hrel
        by_cases hltm : m < g.length
        · have hltmI : (m : Int) < g.length := by omega
          have HLTM := Lib.hid hltm
          have hgt := fromB_get HV.out HV.out.1 (-1) hltm
          have hcnt : ((fromL g 0 (-1)).take (m + 1)).count true = ((fromL g 0 (-1)).take m).count true + if fromB g 0 (-1) m then 1 else 0 := by
            rw [List.take_add_one, hgt, List.count_append]
            cases fromB g 0 (-1) m <;> simp
          have hle : ((fromL g 0 (-1)).take m).count true ≤ m := Nat.le_trans List.count_le_length (List.length_take_le _ _)
          generalize ((fromL g 0 (-1)).take m).count true = c0 at *
          obtain ⟨q0, hq0⟩ : ∃ q0, fromB g 0 (-1) m = q0 := ⟨_, rfl⟩
          rw [hq0] at hcnt hgt
          have cA : wr.cell? ⟨ab, m, none⟩ = some (.bool q0) := cell_of_blk HAr.out (by simp [hgt, encBool])
          have HCN := Lib.hid hcnt
          clear hcnt hgt hq0 hltm
          cases q0 with
          | false =>
            go_wp2
            go_roundw
            case rel => exact ⟨m + 1, HLTM.out, by go_num, by rw [HCN.out]; simp, trivial⟩
            case measure => have := HLTM.out; simp [intOf]; omega
          | true =>
            go_wp2
            go_roundw
            case rel => exact ⟨m + 1, HLTM.out, by go_num, by rw [HCN.out]; simp, trivial⟩
            case measure => have := HLTM.out; simp [intOf]; omega
        · obtain rfl : m = g.length := by omega
          have hltmI : ¬ (g.length : Int) < g.length := by omega
          have hfl := fromL_len HV.out HV.out.1 (-1)
          rw [List.take_of_length_le (by rw [hfl]; omega)]
          have hrm0 : Hid (RM w1 wr ab w2.heap.size g.length ee co (fromL g 0 (-1)) (edL g)) := ⟨HED.out, HAr.out, HB2.out.trans (HBK.out.mono HB2.out.size)⟩
          have hS12 := HB2.out.size
          generalize fromL g 0 (-1) = al0 at *
          generalize edL g = ed0 at *
          go_wp2
          go_loopg [10, 12] k0 (fun k lv cv wx => ∃ (al : List Bool) (ed : List (List Bool)) (left : Int) (c : Bool), lv = .int .i64 left ∧ cv = .bool c ∧ Hid (RM w1 wx ab w2.heap.size g.length ee co al ed ∧ RS g g.length al ed left ∧ (c = true → RedR g.length k al ed left L) ∧ (c = false → left = L)))
          case atStart => exact ⟨al0, ed0, _, true, rfl, rfl, hrm0.out, HRS.out, fun _ => HRUN.out.1, fun h => by cases h⟩
          case round =>
            obtain ⟨al, ed, left, c, rfl, rfl, HI⟩ := hrel
            cases c with
            | false =>
              go_wp2
              go_ret
              refine ⟨?_, hw1.out.trans (HI.out.1.hb.mono hw1.out.size)⟩
              rw [← HRUN.out.2, ← HI.out.2.2.2 (by trivial)]
              exact ret_bool (by rw [Bool.eq_iff_iff, beq_iff_eq, decide_eq_true_eq])
            | true =>
              cases gk with
              | zero => exact (HI.out.2.2.1 rfl).elim
              | succ k =>
                go_wp2
                go_loopw [10, 12, 13] (fun lv cv mv wx => ∃ (m : Nat) (al1 : List Bool) (ed1 : List (List Bool)) (left1 : Int) (c1 : Bool), 1 ≤ m ∧ m ≤ g.length ∧ lv = .int .i64 left1 ∧ cv = .bool c1 ∧ mv = .int .i64 (m : Int) ∧ Hid ((al1, ed1, left1, c1) = passTo g.length al ed left m ∧ RM w1 wx ab w2.heap.size g.length ee co al1 ed1 ∧ RS g g.length al1 ed1 left1)) (fun _ _ mv _ => g.length - (intOf mv).toNat)
                case atStart => exact ⟨1, al, ed, left, false, Nat.le_refl _, hgp, rfl, rfl, rfl, rfl, HI.out.1, HI.out.2.1⟩
                case round =>
                  obtain ⟨m, al1, ed1, left1, c1, hm1, hm, rfl, rfl, rfl, HM⟩ := hrel
                  by_cases hltm : m < g.length
                  · have hltmI : (m : Int) < g.length := by omega
                    have HLTM := Lib.hid hltm
                    have hsq := HM.out.2.2.sq
                    have HSQ := Lib.hid hsq
                    obtain ⟨a0, ha0⟩ : ∃ a0, al1[m]? = some a0 := ⟨_, List.getElem?_eq_getElem (by rw [HM.out.2.2.len]; exact hltm)⟩
                    have cAm : wr.cell? ⟨ab, m, none⟩ = some (.bool a0) := cell_of_blk HM.out.2.1.al (by simp [ha0, encBool])
                    have fAm : wr.frozen? ⟨ab, m, none⟩ = false := free_of_blk HM.out.2.1.al
                    have HA0 := Lib.hid (getD_of ha0)
                    have hpn := passTo_succ g.length al ed left hm1
                    rw [← HM.out.1] at hpn
                    have HPN := Lib.hid hpn
                    clear hsq ha0 hpn hltm
                    go_wp2
                    go_loopw [14, 15, 16] (fun ov tv pv wx => ∃ p : Nat, p ≤ g.length ∧ pv = .int .i64 (p : Int) ∧ ov = .int .i64 (lastI (psTo ed1 m p)) ∧ tv = .int .i64 ((psTo ed1 m p).length : Nat) ∧ wx = wr) (fun _ _ pv _ => g.length - (intOf pv).toNat)
                    case atStart => exact ⟨0, Nat.zero_le _, rfl, rfl, rfl, rfl⟩
                    case round =>
                      obtain ⟨p, hp, rfl, rfl, rfl, rfl⟩ := hrel
                      have hpl := psTo_len ed1 m p
                      by_cases hltp : p < g.length
                      · have hltpI : (p : Int) < g.length := by omega
                        have HLTP := Lib.hid hltp
                        obtain ⟨b, hb1, hb2, _, _⟩ := HM.out.2.1.cell hab2 HB2.out.size HSQ.out HLTP.out HLTM.out
                        have hps := psTo_succ ed1 m p
                        obtain ⟨q, hq⟩ : ∃ q, eget ed1 p m = q := ⟨_, rfl⟩
                        rw [hq] at hb2 hps
                        have HPS := Lib.hid hps
                        clear hps hq hltp
                        generalize hpe : psTo ed1 m p = ps at *
                        have HPE := Lib.hid hpe
                        clear hpe
                        cases q with
                        | false =>
                          go_wp2
                          go_roundw
                          case rel => exact ⟨p + 1, HLTP.out, by go_num, by rw [HPS.out]; simp, by rw [HPS.out]; simp, trivial⟩
                          case measure => have := HLTP.out; simp [intOf]; omega
                        | true =>
                          go_wp2
                          go_roundw
                          case rel => exact ⟨p + 1, HLTP.out, by go_num, by rw [HPS.out, if_pos rfl, lastI_snoc], by rw [HPS.out, if_pos rfl, List.length_append]; go_num, trivial⟩
                          case measure => have := HLTP.out; simp [intOf]; omega
                      · obtain rfl : p = g.length := by omega
                        have hltpI : ¬ (g.length : Int) < g.length := by omega
                        have hpe : psTo ed1 m g.length = predsE g.length ed1 m := rfl
                        rw [hpe] at hpl ⊢
                        clear hpe
                        have HPV := Lib.hid hpl
                        by_cases hone : (predsE g.length ed1 m).length = 1
                        · obtain ⟨p0, hp0⟩ : ∃ p0, predsE g.length ed1 m = [p0] := by
                            match hq : predsE g.length ed1 m, hone with
                            | [x], _ => exact ⟨x, rfl⟩
                          have hpm : p0 ∈ predsE g.length ed1 m := by rw [hp0]; simp
                          have hpm2 := List.mem_filter.1 hpm
                          have hp0l : p0 < g.length := List.mem_range.1 hpm2.1
                          have hne := (HM.out.2.2.ends p0 m ⟨hp0l, HLTM.out, hpm2.2⟩).2.2
                          have hcnt := HM.out.2.2.cnt
                          have hcl := count_le al1
                          rw [HM.out.2.2.len] at hcl
                          have hl0 : 0 ≤ left1 := by omega
                          have hl1 : left1 ≤ 2000000 := by omega
                          have hst : al1.getD m false = true → redStep g.length (al1, ed1, left1, c1) m = (al1.set m false, mergeE g.length p0 m ed1, left1 - 1, true) := fun ha => by
                            unfold redStep
                            rw [if_pos ⟨ha, hone⟩, hp0]; rfl
                          have hst2 : al1.getD m false = false → redStep g.length (al1, ed1, left1, c1) m = (al1, ed1, left1, c1) := fun ha => by
                            unfold redStep
                            rw [if_neg (fun h => by rw [ha] at h; simp at h)]
                          have hls : lastI (predsE g.length ed1 m) = (p0 : Int) := by rw [hp0]; rfl
                          rw [hls, hp0]
                          have HST := Lib.hid (And.intro hst hst2)
                          have HNE := Lib.hid (And.intro hp0l hne)
                          have hp0I : (p0 : Int) < g.length := by omega
                          clear hls hst hst2 hp0 hpm hpm2 hp0l hne hcnt hcl hone hpl HPV
                          show Code.wp _ _ _ { tmps := _, defers := _ } _
                          cases a0 with
                          | false =>
                            go_wp2
                            go_roundw
                            case rel => exact ⟨m + 1, al1, ed1, left1, c1, by omega, HLTM.out, rfl, rfl, by go_num, by rw [HPN.out, HST.out.2 HA0.out], HM.out.2⟩
                            case measure => have := HLTM.out; simp [intOf]; omega
                          | true =>
                            obtain ⟨b1, hb1, hb2, hb3, hb4⟩ := HM.out.2.1.cell hab2 HB2.out.size HSQ.out HNE.out.1 HLTM.out
                            have hr2 : RM w1 (wr.setCell ⟨b1, m, none⟩ (.bool false)) ab w2.heap.size g.length ee co al1 (eset ed1 p0 m false) := hb4 0 false
                            clear hb4
                            go_upto_region 38 with fail
                            generalize hw4 : wr.setCell ⟨b1, m, none⟩ (.bool false) = w4 at hr2 ⊢
                            have HR2 := Lib.hid hr2
                            have HSQ2 := Lib.hid (eset_sq HSQ.out (s := m) false HNE.out.1)
                            clear hw4 hr2 hb1 hb2 hb3 cAm fAm
                            go_wp2
                            go_loopw [17] (fun sv wx => ∃ s : Nat, s ≤ g.length ∧ sv = .int .i64 (s : Int) ∧ Hid (RM w1 wx ab w2.heap.size g.length ee co al1 ((List.range s).foldl (mg1 p0 m) (eset ed1 p0 m false)))) (fun sv _ => g.length - (intOf sv).toNat)
                            case atStart => exact ⟨0, Nat.zero_le _, rfl, HR2.out⟩
                            case round =>
                              obtain ⟨s, hs, rfl, HS⟩ := hrel
                              have hsn := merge_get HSQ2.out HNE.out.1 HLTM.out HNE.out.2 s hs
                              have hsx : (List.range (s + 1)).foldl (mg1 p0 m) (eset ed1 p0 m false) = mg1 p0 m ((List.range s).foldl (mg1 p0 m) (eset ed1 p0 m false)) s := by rw [List.range_succ, List.foldl_append]; rfl
                              by_cases hlts : s < g.length
                              · have hltsI : (s : Int) < g.length := by omega
                                have HLTS := Lib.hid hlts
                                have HSX := Lib.hid (And.intro hsx hsn.1)
                                clear hsx hsn hlts
                                generalize (List.range s).foldl (mg1 p0 m) (eset ed1 p0 m false) = edS at *
                                obtain ⟨bO, ho1, ho2, ho3, ho4⟩ := HS.out.cell hab2 HB2.out.size HSX.out.2 HNE.out.1 HLTS.out
                                obtain ⟨bM, hm1', hm2', _, _⟩ := HS.out.cell hab2 HB2.out.size HSX.out.2 HLTM.out HLTS.out
                                obtain ⟨x0, hx0⟩ : ∃ x, eget edS p0 s = x := ⟨_, rfl⟩
                                obtain ⟨x1, hx1⟩ : ∃ x, eget edS m s = x := ⟨_, rfl⟩
                                rw [hx0] at ho2
                                rw [hx1] at hm2'
                                have HO4 := Lib.hid ho4
                                have HXX := Lib.hid (And.intro hx0 hx1)
                                clear hx0 hx1 ho4
                                go_upto_region 41 with fail
                                go_cut [] (fun wx => Hid (RM w1 wx ab w2.heap.size g.length ee co al1 (eset edS p0 s (x0 || (x1 && decide (s ≠ p0))))))
                                case first =>
                                  cases x0 with
                                  | true =>
                                    refine wp_region_quiet_tail 27 (by kernel_rfl) (by kernel_rfl) ?_
                                    simp only [List.take_succ_cons, List.take_zero, List.drop_succ_cons, List.drop_zero]
                                    repeat (go_big_quiet_step (fail))
                                    refine wpQuiet_nil ?_
                                    go_wp2
                                    go_meet
                                    exact Lib.hid (by have := HO4.out 1 true; exact this)
                                  | false =>
                                    cases x1 with
                                    | false =>
                                      refine wp_region_quiet_tail 27 (by kernel_rfl) (by kernel_rfl) ?_
                                      simp only [List.take_succ_cons, List.take_zero, List.drop_succ_cons, List.drop_zero]
                                      repeat (go_big_quiet_step (fail))
                                      refine wpQuiet_nil ?_
                                      go_wp2
                                      go_meet
                                      exact Lib.hid (by have := HO4.out 1 false; exact this)
                                    | true =>
                                      by_cases hsp : s = p0
                                      · have htst : ((s : Int) != (p0 : Int)) = false := by rw [bne_eq_false_iff_eq]; omega
                                        have HSP := Lib.hid hsp
                                        clear hsp
                                        refine wp_region_quiet_tail 27 (by kernel_rfl) (by kernel_rfl) ?_
                                        simp only [List.take_succ_cons, List.take_zero, List.drop_succ_cons, List.drop_zero]
                                        repeat (go_big_quiet_step (fail))
                                        refine wpQuiet_nil ?_
                                        go_wp2
                                        go_meet
                                        exact Lib.hid (by have := HO4.out 1 false; rw [decide_eq_false (fun h => h HSP.out)]; exact this)
                                      · have htst : ((s : Int) != (p0 : Int)) = true := by rw [bne_iff_ne]; omega
                                        have HSP := Lib.hid hsp
                                        clear hsp
                                        refine wp_region_quiet_tail 27 (by kernel_rfl) (by kernel_rfl) ?_
                                        simp only [List.take_succ_cons, List.take_zero, List.drop_succ_cons, List.drop_zero]
                                        repeat (go_big_quiet_step (fail))
                                        refine wpQuiet_nil ?_
                                        go_wp2
                                        go_meet
                                        exact Lib.hid (by have := HO4.out 1 true; rw [decide_eq_true HSP.out]; exact this)
                                case rest =>
                                  have HC := hcut
                                  obtain ⟨bN, hn1, hn2, hn3, hn4⟩ := HC.out.cell hab2 HB2.out.size (eset_sq HSX.out.2 (s := s) _ HNE.out.1) HLTM.out HLTS.out
                                  have hfin : Hid (RM w1 (wc.setCell ⟨bN, s, none⟩ (.bool false)) ab w2.heap.size g.length ee co al1 (mg1 p0 m edS s)) := by
                                    have := hn4 0 false
                                    unfold mg1
                                    rw [HXX.out.1, HXX.out.2]
                                    exact this
                                  clear hn4 hcut
                                  go_wp2
                                  go_roundw
                                  case rel => exact ⟨s + 1, HLTS.out, by go_num, by rw [HSX.out.1]; exact hfin⟩
                                  case measure => have := HLTS.out; simp [intOf]; omega
                              · obtain rfl : s = g.length := by omega
                                have hltsI : ¬ (g.length : Int) < g.length := by omega
                                have hmg : (List.range g.length).foldl (mg1 p0 m) (eset ed1 p0 m false) = mergeE g.length p0 m ed1 := rfl
                                rw [hmg] at HS
                                obtain ⟨a1, ha1⟩ : ∃ a1, al1[m]? = some a1 := ⟨_, List.getElem?_eq_getElem (by rw [HM.out.2.2.len]; exact HLTM.out)⟩
                                have cA2 : wr.cell? ⟨ab, m, none⟩ = some (.bool a1) := cell_of_blk HS.out.al (by simp [ha1, encBool])
                                have fA2 : wr.frozen? ⟨ab, m, none⟩ = false := free_of_blk HS.out.al
                                have HFIN := Lib.hid (HS.out.setAl hab2 hab m false)
                                have hrs := step_or (st := (al1, ed1, left1, c1)) HM.out.2.2 HLTM.out (show m ≠ 0 by omega)
                                rw [HST.out.1 HA0.out] at hrs HPN
                                have HRS2 := Lib.hid hrs.1
                                clear hmg hsn hsx ha1 hrs
                                go_wp2
                                go_roundw
                                case rel => exact ⟨m + 1, al1.set m false, mergeE g.length p0 m ed1, left1 - 1, true, by omega, HLTM.out, rfl, rfl, by go_num, HPN.out.symm, HFIN.out, HRS2.out⟩
                                case measure => have := HLTM.out; simp [intOf]; omega
                        · have hth : (((predsE g.length ed1 m).length : Nat) : Int) ≠ 1 := by omega
                          have htst : ((((predsE g.length ed1 m).length : Nat) : Int) != 1) = true := by rw [bne_iff_ne]; exact hth
                          have hst : redStep g.length (al1, ed1, left1, c1) m = (al1, ed1, left1, c1) := by unfold redStep; rw [if_neg (fun h => hone h.2)]
                          rw [hst] at HPN
                          have HTH := Lib.hid (And.intro hth hone)
                          clear hst hone hth
                          generalize (((predsE g.length ed1 m).length : Nat) : Int) = pl at *
                          generalize lastI (predsE g.length ed1 m) = li at *
                          cases a0 with
                          | false =>
                            go_wp2
                            go_roundw
                            case rel => exact ⟨m + 1, al1, ed1, left1, c1, by omega, HLTM.out, rfl, rfl, by go_num, HPN.out.symm, HM.out.2⟩
                            case measure => have := HLTM.out; simp [intOf]; omega
                          | true =>
                            go_wp2
                            go_roundw
                            case rel => exact ⟨m + 1, al1, ed1, left1, c1, by omega, HLTM.out, rfl, rfl, by go_num, HPN.out.symm, HM.out.2⟩
                            case measure => have := HLTM.out; simp [intOf]; omega
                  · obtain rfl : m = g.length := by omega
                    have hltmI : ¬ (g.length : Int) < g.length := by omega
                    go_wp2
                    go_roundg k
                    have hp := HM.out.1
                    have hr := HI.out.2.2.1 (by trivial)
                    have e1 : redPass g.length al ed left = (al1, ed1, left1, c1) := hp.symm
                    unfold RedR at hr
                    rw [e1] at hr
                    refine ⟨al1, ed1, left1, c1, rfl, rfl, ⟨HM.out.2.1, HM.out.2.2, fun hc => ?_, fun hc => ?_⟩⟩
                    · rcases hr with ⟨h1, h2⟩ | ⟨h1, h2⟩
                      · rw [hc] at h1; cases h1
                      · exact h2
                    · rcases hr with ⟨h1, h2⟩ | ⟨h1, h2⟩
                      · exact h2.symm
                      · rw [hc] at h1; cases h1
                    exact Nat.lt_succ_self k
end Go.Proofs.Ytpfinkcnklkclaa
