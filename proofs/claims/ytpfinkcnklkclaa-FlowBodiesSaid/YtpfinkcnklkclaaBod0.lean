/-
  For the law FlowBodies: the rows of the loops, the inner graph row by row, one loop of the answer in memory. The function of the program is not walked here.
-/
import Derived.Test.YtpfinkcnklkclaaRRed
import Derived.Test.YtpfinkcnklkclaaBuild
set_option linter.unusedVariables false
set_option linter.unusedSimpArgs false
namespace Go.Proofs.Ytpfinkcnklkclaa
open Go.RowKit

def bB (g : List (List Nat)) (hd y : Nat) : Bool := decide (y ∈ bodyL g hd)
theorem bB_eq {g : List (List Nat)} {hd y : Nat} (hy : y < g.length) : bB g hd y = bodyB g hd y := by
  unfold bB; rw [Bool.eq_iff_iff, decide_eq_true_eq, bodyL_mem]; exact ⟨fun h => h.2, fun h => ⟨hy, h⟩⟩
def inRow (g : List (List Nat)) (p : Nat → Bool) (y k : Nat) : List Nat := ((succ g y).take k).filter fun s => p y && p s
theorem inRow_zero (g : List (List Nat)) (p : Nat → Bool) (y : Nat) : inRow g p y 0 = [] := by simp [inRow]
theorem inRow_succ {g : List (List Nat)} {p : Nat → Bool} {y k s : Nat} (hs : (succ g y)[k]? = some s) : inRow g p y (k + 1) = if p y && p s then inRow g p y k ++ [s] else inRow g p y k := by
  unfold inRow
  rw [List.take_add_one, hs, List.filter_append]
  cases h : (p y && p s) <;> simp [h]
theorem inRow_len (g : List (List Nat)) (p : Nat → Bool) (y k : Nat) : (inRow g p y k).length ≤ k := by
  unfold inRow
  exact Nat.le_trans (List.length_filter_le _ _) (by rw [List.length_take]; omega)
theorem inRow_full (g : List (List Nat)) (p : Nat → Bool) : ((List.range g.length).map fun y => inRow g p y (succ g y).length) = innerG g p := by
  unfold innerG inRow
  exact List.map_congr_left fun y _ => by rw [List.take_length]
theorem innerG_bB {g : List (List Nat)} (hv : ValidG g) (hd : Nat) : innerG g (bB g hd) = innerG g (bodyB g hd) := by
  unfold innerG
  refine List.map_congr_left fun u hu => List.filter_congr fun s hs => ?_
  rw [bB_eq (List.mem_range.1 hu), bB_eq (succ_lt hv hs)]
theorem inner_reach {g : List (List Nat)} (hv : ValidG g) {hd x : Nat} (h : hd ∈ headsL g) (hx : x ∈ bodyL g hd) : fromB (innerG g (bB g hd)) x (-1) hd = true := by
  rw [innerG_bB hv]
  exact inner_from hv (headsL_mem.1 h).2 (bodyL_mem.1 hx).1 (bodyL_mem.1 hx).2
def bodyRows (g : List (List Nat)) (i : Nat) : List (List Bool) := ((headsL g).take i).map fun hd => marks g.length (bodyL g hd)
theorem bodyRows_succ {g : List (List Nat)} {i hd : Nat} (h : (headsL g)[i]? = some hd) : bodyRows g (i + 1) = bodyRows g i ++ [marks g.length (bodyL g hd)] := by
  unfold bodyRows; rw [List.take_add_one, h, List.map_append]; rfl
theorem bodyRows_len {g : List (List Nat)} {i : Nat} (h : i ≤ (headsL g).length) : (bodyRows g i).length = i := by
  unfold bodyRows; rw [List.length_map, List.length_take]; omega
theorem bodyRows_get {g : List (List Nat)} {i hd : Nat} (h : (headsL g)[i]? = some hd) : (bodyRows g (headsL g).length)[i]? = some (marks g.length (bodyL g hd)) := by
  unfold bodyRows; rw [List.take_length, List.getElem?_map, h]; rfl
theorem bodyRows_eget {g : List (List Nat)} {i hd y : Nat} (h : (headsL g)[i]? = some hd) (hy : y < g.length) : (bodyRows g (headsL g).length).getD i [] = marks g.length (bodyL g hd) ∧ eget (bodyRows g (headsL g).length) i y = bB g hd y := by
  have h1 : (bodyRows g (headsL g).length).getD i [] = marks g.length (bodyL g hd) := by rw [List.getD_eq_getElem?_getD, bodyRows_get h]; rfl
  refine ⟨h1, ?_⟩
  unfold eget
  rw [h1, List.getD_eq_getElem?_getD, marks_get _ _ _ hy]; rfl
theorem headsL_len (g : List (List Nat)) : (headsL g).length ≤ g.length := by
  unfold headsL; have := List.length_filter_le (headB g) (List.range g.length); rw [List.length_range] at this; exact this
theorem bodyL_len (g : List (List Nat)) (hd : Nat) : (bodyL g hd).length ≤ g.length := by
  unfold bodyL; have := List.length_filter_le (bodyB g hd) (List.range g.length); rw [List.length_range] at this; exact this
theorem head_self {g : List (List Nat)} {hd : Nat} (h : hd ∈ headsL g) : hd ∈ bodyL g hd := bodyL_mem.2 ⟨(headsL_mem.1 h).1, body_self g hd⟩
def anyTo (f : Nat → Bool) (n : Nat) : Bool := (List.range n).any f
theorem anyTo_zero (f : Nat → Bool) : anyTo f 0 = false := rfl
theorem anyTo_succ (f : Nat → Bool) (n : Nat) : anyTo f (n + 1) = (anyTo f n || f n) := by unfold anyTo; rw [List.range_succ, List.any_append]; simp
theorem anyTo_true {f : Nat → Bool} {n : Nat} (h : anyTo f n = true) : ∃ x, x < n ∧ f x = true := by
  unfold anyTo at h; obtain ⟨x, hx, h2⟩ := List.any_eq_true.1 h; exact ⟨x, List.mem_range.1 hx, h2⟩
theorem bod_nest {g : List (List Nat)} (hv : ValidG g) {a b : Nat} (ha : a ∈ headsL g) (hb : b ∈ headsL g) (hne : a ≠ b)
    (h1 : anyTo (fun y => bB g a y && bB g b y) g.length = true) (h2 : anyTo (fun y => bB g a y && !bB g b y) g.length = true) (h3 : anyTo (fun y => bB g b y && !bB g a y) g.length = true) : False := by
  obtain ⟨x, hx, h1⟩ := anyTo_true h1
  obtain ⟨y, hy, h2⟩ := anyTo_true h2
  obtain ⟨z, hz, h3⟩ := anyTo_true h3
  rw [bB_eq hx, bB_eq hx, Bool.and_eq_true] at h1
  rw [bB_eq hy, bB_eq hy, Bool.and_eq_true] at h2
  rw [bB_eq hz, bB_eq hz, Bool.and_eq_true] at h3
  rcases bodies_nest hv (headsL_mem.1 ha).2 (headsL_mem.1 hb).2 hne hx h1.1 h1.2 with h | h
  · have := h z hz h3.1; rw [this] at h3; simp at h3
  · have := h y hy h2.1; rw [this] at h2; simp at h2
/-- One loop of the answer. -/
theorem cyc_read {w : World} {B : Nat} {a : Option Addr} {len cap : Nat} {g : List (List Nat)} (h : CycOf w B (.slice a len cap) (loopsL g)) {i hd : Nat} (hi : (headsL g)[i]? = some hd) :
    ∃ b o ba bc, a = some ⟨b, o, none⟩ ∧ b < B ∧ w.cell? ⟨b, o + i * 2, none⟩ = some (.int .i64 (hd : Int)) ∧ w.cell? ⟨b, o + i * 2 + 1, none⟩ = some (.slice ba (bodyL g hd).length bc) ∧
      ∀ (k x : Nat), (bodyL g hd)[k]? = some x → ∃ b2 o2, ba = some ⟨b2, o2, none⟩ ∧ b2 < B ∧ w.cell? ⟨b2, o2 + k, none⟩ = some (.int .i64 (x : Int)) := by
  obtain ⟨a', cap', e, _, hx⟩ := h
  cases e
  have hc : (loopsL g)[i]? = some (hd, bodyL g hd) := by rw [loopsL_heads, List.getElem?_map, hi]; rfl
  obtain ⟨b, o, bv, h1, h2, h3, h4, ba, bc, rfl, _, h5⟩ := hx i _ hc
  exact ⟨b, o, ba, bc, h1, h2, h3, h4, h5⟩
theorem loopsL_length (g : List (List Nat)) : (loopsL g).length = (headsL g).length := by rw [loopsL_heads, List.length_map]
end Go.Proofs.Ytpfinkcnklkclaa
