/-
  The walk of the reference's Dominators.
-/
import Derived.Test.YtpfinkcnklkclaaDoms
set_option linter.unusedVariables false
set_option linter.unusedSimpArgs false
namespace Go.Proofs.Ytpfinkcnklkclaa
open Go.RowKit

theorem best1_pos {g : List (List Nat)} {x : Nat} {b : Int} {d : Nat} (h : d ≠ x ∧ domsB g d x = true ∧ (b < 0 ∨ domsB g b.toNat d = true)) : best1 g x b d = (d : Int) := if_pos h
theorem best1_neg {g : List (List Nat)} {x : Nat} {b : Int} {d : Nat} (h : ¬ (d ≠ x ∧ domsB g d x = true ∧ (b < 0 ∨ domsB g b.toNat d = true))) : best1 g x b d = b := if_neg h
theorem best_range (g : List (List Nat)) (x : Nat) : ∀ m, (List.range m).foldl (best1 g x) (-1) = -1 ∨ ∃ b : Nat, (List.range m).foldl (best1 g x) (-1) = (b : Int) ∧ b < m
  | 0 => .inl rfl
  | m + 1 => by
    rw [List.range_succ, List.foldl_append, List.foldl_cons, List.foldl_nil]
    by_cases h : m ≠ x ∧ domsB g m x = true ∧ ((List.range m).foldl (best1 g x) (-1) < 0 ∨ domsB g ((List.range m).foldl (best1 g x) (-1)).toNat m = true)
    · exact .inr ⟨m, best1_pos h, by omega⟩
    · have e : best1 g x ((List.range m).foldl (best1 g x) (-1)) m = (List.range m).foldl (best1 g x) (-1) := best1_neg h
      rw [e]
      rcases best_range g x m with h1 | ⟨b, h1, h2⟩
      · exact .inl h1
      · exact .inr ⟨b, h1, by omega⟩
theorem domRows_get {g : List (List Nat)} {d : Nat} (hd : d < g.length) : (domRows g)[d]? = some (domRow g d) := by
  unfold domRows; rw [List.getElem?_map, List.getElem?_range hd]; rfl
theorem domRow_get {g : List (List Nat)} {d x : Nat} (hx : x < g.length) : (domRow g d)[x]? = some (domsB g d x) := by
  unfold domRow; rw [List.getElem?_map, List.getElem?_range hx]; rfl
/-- One cell of the matrix. -/
theorem dom_cell {w : World} {B : Nat} {a : Option Addr} {len cap : Nat} {g : List (List Nat)} (h : RowsOf encBool w B (.slice a len cap) (domRows g)) {d : Nat} (hd : d < g.length) :
    ∃ b o a2 cap2, a = some ⟨b, o, none⟩ ∧ w.cell? ⟨b, o + d, none⟩ = some (.slice a2 g.length cap2) ∧ ∀ x, x < g.length → ∃ b2 o2, a2 = some ⟨b2, o2, none⟩ ∧ w.cell? ⟨b2, o2 + x, none⟩ = some (.bool (domsB g d x)) := by
  obtain ⟨b, o, a2, cap2, h1, _, h3, _, h5⟩ := h.row (domRows_get hd)
  have hl : (domRow g d).length = g.length := by simp [domRow]
  rw [hl] at h3
  refine ⟨b, o, a2, cap2, h1, h3, fun x hx => ?_⟩
  obtain ⟨b2, o2, h6, _, h8⟩ := h5 x _ (domRow_get hx)
  exact ⟨b2, o2, h6, h8⟩

set_option maxRecDepth 100000 in
set_option maxHeartbeats 1600000 in
theorem ans_ref_dominators {w : World} {sv : Value} {g : List (List Nat)} (h : GraphIn w sv g) : Calls Try.prog 24 #[.agg #[sv]] w (RetInts w (idomL g)) := by
  obtain ⟨a, cap, rfl, hcap⟩ := h.rows.form
  obtain ⟨ii, hii, hzi0, hzi1, hzi2⟩ := info_parts Try.info_int
  have hn := h.len
  have h1 := h.below ((Below.refl _ w).alloc (Nat.le_refl _) (.cells #[.slice a g.length cap] 24))
  have cg : (w.alloc (.cells #[.slice a g.length cap] 24)).cell? ⟨w.heap.size, 0, none⟩ = some (.slice a g.length cap) := cell_of_one (new_at rfl)
  have H1 := Lib.hid h1
  clear h h1
  have hdl : (domRows g).length = g.length := by simp [domRows]
  go_enter Try.func24, Try.ntmps24
  go_wp2_with (first
    | (go_at_call 19; go_must (refine (ans_ref_valid H1.out).mono ?_; rintro e w1 ⟨rfl, hb1⟩; have cg1 := (hb1.cell (p := ⟨w.heap.size, 0, none⟩) (by simp)).trans cg; have HG1 := Lib.hid (H1.out.below hb1); have hw1 := Lib.hid (((Below.refl _ w).alloc (Nat.le_refl _) _).trans (hb1.mono (by simp))); have hl1 : w.heap.size < w1.heap.size := World.block_lt_of_cell? w1 _ cg1; clear cg hb1))
    | (go_at_call 32; go_must (refine (doms_any HG1.out).mono ?_; rintro e w2 ⟨v2, rfl, hR, hb2⟩; obtain ⟨da, dc, rfl, hdc⟩ := hR.form; rw [hdl]; have cg2 := (hb2.cell (p := ⟨w.heap.size, 0, none⟩) hl1).trans cg1; have hw2 := Lib.hid (hw1.out.trans (hb2.mono hw1.out.size)); have HR := Lib.hid hR; have hl2 : w.heap.size < w2.heap.size := World.block_lt_of_cell? w2 _ cg2; clear cg1 hb2 hR)))
  go_loopw [5, 6] (fun ov xv wr => ∃ x : Nat, x ≤ g.length ∧ xv = .int .i64 (x : Int) ∧ Hid (wr.ownsRow w2.heap.size 3 1 ov x (((idomL g).take x).map encInt) ∧ Below w2.heap.size w2 wr)) (fun _ xv _ => g.length - (intOf xv).toNat)
  case atStart => exact ⟨0, Nat.zero_le _, rfl, World.ownsRow_nil _ _ _ _, Below.refl _ _⟩
  case round =>
    obtain ⟨x, hx, rfl, HK⟩ := hrel
    have cgr := (HK.out.2.cell (p := ⟨w.heap.size, 0, none⟩) hl2).trans cg2
    obtain ⟨oa, oc, rfl⟩ := ownsRow_form HK.out.1
    by_cases hlt : x < g.length
    · have hltI : (x : Int) < g.length := by omega
      have HLT := Lib.hid hlt
      have HRr := Lib.hid (HR.out.below HK.out.2)
      clear cg2
      go_wp2
      go_loopw [7, 8] (fun bv dv wx => ∃ d : Nat, d ≤ g.length ∧ dv = .int .i64 (d : Int) ∧ bv = .int .i64 ((List.range d).foldl (best1 g x) (-1)) ∧ wx = wr) (fun _ dv _ => g.length - (intOf dv).toNat)
      case atStart => exact ⟨0, Nat.zero_le _, rfl, rfl, rfl⟩
      case round =>
        obtain ⟨d, hd, rfl, rfl, rfl⟩ := hrel
        have hbr := best_range g x d
        have hnext : (List.range (d + 1)).foldl (best1 g x) (-1) = best1 g x ((List.range d).foldl (best1 g x) (-1)) d := by rw [List.range_succ, List.foldl_append]; rfl
        generalize hbe : (List.range d).foldl (best1 g x) (-1) = be at hbr hnext ⊢
        have HB0 := Lib.hid hbe
        clear hbe
        have HNX := Lib.hid hnext
        clear hnext
        by_cases hlt2 : d < g.length
        · have hltI2 : (d : Int) < g.length := by omega
          have HLT2 := Lib.hid hlt2
          obtain ⟨b, o, a2, cap2, hda, hc1, hcx⟩ := dom_cell HRr.out hlt2
          obtain ⟨b2, o2, rfl, hc2⟩ := hcx x HLT.out
          obtain ⟨q1, hq1⟩ : ∃ q, domsB g d x = q := ⟨_, rfl⟩
          rw [hq1] at hc2
          by_cases hdx : d = x
          · have htst : ((d : Int) != (x : Int)) = false := by rw [bne_eq_false_iff_eq]; omega
            have HDX := Lib.hid hdx
            clear hdx hcx
            go_wp2
            go_roundw
            case rel => exact ⟨d + 1, HLT2.out, by go_num, by rw [HNX.out, best1_neg (fun h => h.1 HDX.out)], trivial⟩
            case measure => have := HLT2.out; simp [intOf]; omega
          · have htst : ((d : Int) != (x : Int)) = true := by rw [bne_iff_ne]; omega
            have HDX := Lib.hid hdx
            have HQ1 := Lib.hid hq1
            clear hdx hcx hq1
            subst hda
            cases q1 with
            | false =>
              go_wp2
              go_roundw
              case rel => exact ⟨d + 1, HLT2.out, by go_num, by rw [HNX.out, best1_neg (fun h => by have := h.2.1; rw [HQ1.out] at this; simp at this)], trivial⟩
              case measure => have := HLT2.out; simp [intOf]; omega
            | true =>
              rcases hbr with hbr | ⟨bn, hbr, hbn⟩
              · have hneg : decide (be < 0) = true := by rw [decide_eq_true_eq]; omega
                have HBE := Lib.hid hbr
                go_wp2
                go_roundw
                case rel => exact ⟨d + 1, HLT2.out, by go_num, by rw [HNX.out, best1_pos ⟨HDX.out, HQ1.out, .inl (by have := HBE.out; omega)⟩], trivial⟩
                case measure => have := HLT2.out; simp [intOf]; omega
              · subst hbr
                have hneg : decide ((bn : Int) < 0) = false := by rw [decide_eq_false_iff_not]; omega
                have hbnI : (bn : Int) < g.length := by omega
                obtain ⟨b', o', a3, cap3, e3, hc3, hcy⟩ := dom_cell HRr.out (show bn < g.length by omega)
                cases e3
                obtain ⟨b4, o4, rfl, hc4⟩ := hcy d HLT2.out
                obtain ⟨q2, hq2⟩ : ∃ q, domsB g bn d = q := ⟨_, rfl⟩
                rw [hq2] at hc4
                have HQ2 := Lib.hid hq2
                clear hcy hq2
                cases q2 with
                | false =>
                  go_wp2
                  go_roundw
                  case rel => exact ⟨d + 1, HLT2.out, by go_num, by rw [HNX.out, best1_neg (fun h => by rcases h.2.2 with h | h; omega; rw [Int.toNat_natCast, HQ2.out] at h; simp at h)], trivial⟩
                  case measure => have := HLT2.out; simp [intOf]; omega
                | true =>
                  go_wp2
                  go_roundw
                  case rel => exact ⟨d + 1, HLT2.out, by go_num, by rw [HNX.out, best1_pos ⟨HDX.out, HQ1.out, .inr (by rw [Int.toNat_natCast]; exact HQ2.out)⟩], trivial⟩
                  case measure => have := HLT2.out; simp [intOf]; omega
        · obtain rfl : d = g.length := by omega
          have hltI2 : ¬ (g.length : Int) < g.length := by omega
          have hbi : be = idomAt g x := HB0.out.symm
          subst hbi
          have hxt : (idomL g).take (x + 1) = (idomL g).take x ++ [idomAt g x] := by
            rw [List.take_add_one]; unfold idomL; rw [List.getElem?_map, List.getElem?_range HLT.out]; rfl
          have HXT := Lib.hid hxt
          have hown := HK.out.1
          have hsz := HK.out.2.size
          have hle := ownsRow_le hown
          clear hbr hxt
          go_wp2_with (at_builtin; go_must (refine wpList_append_lies _ rfl (.tmp 55) (.tmp 57) 29 rfl w2.heap.size 3 ii (.int .i64 0) 1 8 Try.underlying29 hii hzi0 hzi1 hzi2 rfl (by decide) _ x _ rfl (hown.alloc _) ⟨wr.heap.size, 0, none⟩ 1 1 [.int .i64 (idomAt g x)] rfl rfl (World.news_of_block (cs := #[.int .i64 (idomAt g x)]) (new_at (by simp))) (by simp [Value.oneCell']) (by decide) (by unfold maxLen; omega) (by omega) (by simp; omega) (wr.heap.size + 1) (by simp) ?_; intro gq capq w6 hown6 hgrow6 hat6 hlt6; have HO6 := Lib.hid (And.intro hown6 hgrow6); clear hown6 hgrow6))
          go_roundw
          case rel =>
            refine ⟨x + 1, HLT.out, by go_num, ?_, (HK.out.2.alloc hsz _).grown HO6.out.2 (by simp; omega) (fun k hk => (HK.out.1.lt k hk).1)⟩
            rw [HXT.out]
            simpa [encInt] using HO6.out.1
          case measure => have := HLT.out; simp [intOf]; omega
    · obtain rfl : x = g.length := by omega
      have hltI : ¬ (g.length : Int) < g.length := by omega
      go_wp2
      go_ret
      have hil : (idomL g).length = g.length := by simp [idomL]
      refine ⟨_, rfl, ?_, hw2.out.trans (HK.out.2.mono hw2.out.size)⟩
      have h9 := HK.out.1
      rw [List.take_of_length_le (by omega)] at h9
      rw [hil]
      exact ownsRow_mono h9 (by omega)
end Go.Proofs.Ytpfinkcnklkclaa
