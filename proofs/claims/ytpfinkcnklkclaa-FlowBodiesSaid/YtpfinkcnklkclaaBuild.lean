/-
  A graph that a law builds row by row: what lies in memory, and what the rows are.
-/
import Derived.Test.YtpfinkcnklkclaaLOrd
import Derived.Test.YtpfinkcnklkclaaLLoop
import Derived.Test.YtpfinkcnklkclaaTail
set_option linter.unusedVariables false
set_option linter.unusedSimpArgs false
namespace Go.Proofs.Ytpfinkcnklkclaa
open Go.RowKit

/-- Rows below u are done, of row u the first k successors; row y belongs to node fr y. -/
def partG (n : Nat) (fr : Nat → Nat) (row : Nat → Nat → List Nat) (len : Nat → Nat) (u k : Nat) : List (List Nat) := (List.range n).map fun y => if fr y < u then row (fr y) (len (fr y)) else if fr y = u then row u k else []
section
variable {n : Nat} {fr : Nat → Nat} {row : Nat → Nat → List Nat} {len : Nat → Nat} {u k : Nat}
theorem partG_len : (partG n fr row len u k).length = n := by simp [partG]
theorem partG_get (y : Nat) : (partG n fr row len u k)[y]? = if y < n then some (if fr y < u then row (fr y) (len (fr y)) else if fr y = u then row u k else []) else none := by
  unfold partG
  rw [List.getElem?_map]
  by_cases hy : y < n
  · rw [List.getElem?_range hy, if_pos hy]; rfl
  · rw [List.getElem?_eq_none (by simpa using hy), if_neg hy]; rfl
theorem partG_start (h : ∀ y, row y 0 = []) : partG n fr row len 0 0 = List.replicate n [] := by
  apply List.ext_getElem?
  intro y
  rw [partG_get, List.getElem?_replicate]
  by_cases hy : y < n
  · rw [if_pos hy, if_pos hy, if_neg (by omega)]
    by_cases e : fr y = 0
    · rw [if_pos e, h]
    · rw [if_neg e]
  · rw [if_neg hy, if_neg hy]
theorem partG_next (h : ∀ y, row y 0 = []) : partG n fr row len u (len u) = partG n fr row len (u + 1) 0 := by
  apply List.ext_getElem?
  intro y
  rw [partG_get, partG_get]
  by_cases hy : y < n
  · rw [if_pos hy, if_pos hy]
    by_cases h1 : fr y < u
    · rw [if_pos h1, if_pos (by omega)]
    · by_cases h2 : fr y = u
      · rw [if_neg h1, if_pos h2, if_pos (by omega), h2]
      · rw [if_neg h1, if_neg h2, if_neg (by omega)]
        by_cases h3 : fr y = u + 1
        · rw [if_pos h3, h]
        · rw [if_neg h3]
  · rw [if_neg hy, if_neg hy]
theorem partG_at {p : Nat} (hp : p < n) (hf : fr p = u) : (partG n fr row len u k)[p]? = some (row u k) := by rw [partG_get, if_pos hp, if_neg (by omega), if_pos hf]
theorem partG_set {p : Nat} (hp : p < n) (hf : fr p = u) (hu : ∀ y, y < n → fr y = u → y = p) (k' : Nat) : (partG n fr row len u k).set p (row u k') = partG n fr row len u k' := by
  apply List.ext_getElem?
  intro y
  rw [List.getElem?_set, partG_len, partG_get, partG_get]
  by_cases e : p = y
  · subst e; rw [if_pos rfl, if_pos hp, if_pos hp, if_neg (by omega), if_pos hf]
  · rw [if_neg e]
    by_cases hy : y < n
    · have e2 : ¬ fr y = u := fun e2 => e (hu y hy e2).symm
      simp only [if_neg e2]
    · rw [if_neg hy, if_neg hy]
theorem partG_same (h : row u (k + 1) = row u k) : partG n fr row len u (k + 1) = partG n fr row len u k := by unfold partG; rw [h]
theorem partG_full (h : ∀ y, y < n → fr y < n) : partG n fr row len n 0 = (List.range n).map fun y => row (fr y) (len (fr y)) := by
  unfold partG
  refine List.map_congr_left fun y hy => ?_
  rw [if_pos (h y (List.mem_range.1 hy))]
end

/-- The graph being built: its header at block bh, its rows' headers at block bp. -/
structure GMem (V w : World) (bp bh n m : Nat) (R : List (List Nat)) : Prop where
  hg : w.heap[bh]? = some (.cells #[.slice (some ⟨bp, 0, none⟩) n n] 24 (0, 0))
  hr : OwnRows encNat 3 29 w V.heap.size bp R
  hl : R.length = n
  hrl : ∀ row ∈ R, row.length ≤ m
  hb : Below V.heap.size V w
  gp : V.heap.size ≤ bp
  gh : V.heap.size ≤ bh
theorem GMem.start (V : World) (n m : Nat) : GMem V ((V.alloc (.cells (madeCells #[.slice none 0 0] n) 29)).alloc (.cells #[.slice (some ⟨V.heap.size, 0, none⟩) n n] 24)) V.heap.size (V.heap.size + 1) n m (List.replicate n []) := by
  refine ⟨new_at (by simp), OwnRows.made n ?_, by simp, (by intro r hr; rw [(List.mem_replicate.1 hr).2]; simp), ((Below.refl _ V).alloc (Nat.le_refl _) _).alloc (by simp) _, Nat.le_refl _, by omega⟩
  rw [alloc_blk (new_at rfl), toArray_madeCells]
theorem GMem.start' (V : World) (b : Nat) (hb : V.heap.size = b) (n m : Nat) : GMem V ((V.alloc (.cells (madeCells #[.slice none 0 0] n) 29)).alloc (.cells #[.slice (some ⟨b, 0, none⟩) n n] 24)) b (b + 1) n m (List.replicate n []) := by
  subst hb; exact GMem.start V n m
theorem GMem.mono {V w : World} {bp bh n m m' : Nat} {R : List (List Nat)} (h : GMem V w bp bh n m R) (hm : m ≤ m') : GMem V w bp bh n m' R :=
  ⟨h.hg, h.hr, h.hl, fun r hr => Nat.le_trans (h.hrl r hr) hm, h.hb, h.gp, h.gh⟩
theorem GMem.drewN {V w : World} {bp bh n m : Nat} {R : List (List Nat)} (h : GMem V w bp bh n m R) (k : Nat) : GMem V (w.drewN k) bp bh n m R :=
  ⟨h.hg, ⟨h.hr.choose, h.hr.choose_spec.1, h.hr.choose_spec.2.1, h.hr.choose_spec.2.2.1, h.hr.choose_spec.2.2.2⟩, h.hl, h.hrl, below_drewN h.hb, h.gp, h.gh⟩
/-- A row is turned: its header is stored back. -/
theorem GMem.put {V w w2 : World} {bp bh n m s g cap' H cap : Nat} {R : List (List Nat)} {row row' : List Nat} {a : Option Addr} {o : Obj} (h : GMem V w bp bh n m R) (hs : R[s]? = some row)
    (hc : w.cell? ⟨bp, s, none⟩ = some (.slice a row.length cap)) (hg : (w.alloc o).grownBy w2 (Value.slice a row.length cap).ownBlock)
    (hown : w2.ownsRow V.heap.size 3 1 (.slice (some ⟨g, 0, none⟩) row'.length cap') row'.length (row'.map encNat)) (hat : (Value.slice a row.length cap).ownBlock = some g ∨ g = H) (hH : w.heap.size ≤ H) (hm : row'.length ≤ m) :
    GMem V (w2.setCell ⟨bp, s, none⟩ (.slice (some ⟨g, 0, none⟩) row'.length cap')) bp bh n m (R.set s row') := by
  obtain ⟨h1, h2, h3, h3l, h4, h5, h6⟩ := h
  obtain ⟨a', cap2, hc', hor, _⟩ := h2.get hs
  rw [hc] at hc'
  cases hc'
  have n1 := ownsRow_block_ne hor h1 (.inr (by decide))
  have hput := h2.put (by decide) hs hc hg (row' := row') hown hat hH
  have l1 := lt_of_block h1
  obtain ⟨cc, hcc⟩ := h2.blk
  have hne : bh ≠ bp := fun e => by subst e; rw [h1] at hcc; simp at hcc
  exact ⟨set_blk (grown_blk hg (alloc_blk h1) n1) (by simpa using hne), hput, by simpa using h3, fun r hr => by (rcases List.mem_or_eq_of_mem_set hr with hr | rfl; exact h3l r hr; exact hm), ((h4.alloc (by have := h4.size; omega) o).grown hg (by have := h4.size; simp; omega) (fun k hk => (hor.lt k hk).1)).setCell h5 _, h5, h6⟩
theorem GMem.graph {V w : World} {bp bh n m : Nat} {R : List (List Nat)} (h : GMem V w bp bh n m R) (hv : ValidG R) (hn : n ≤ 2000000) (hm : m ≤ 2000000) : Var w bh (.slice (some ⟨bp, 0, none⟩) n n) R := by
  have h2 := graph_own h.hr ⟨hv, by rw [h.hl]; exact hn, fun r hr => Nat.le_trans (h.hrl r hr) hm⟩
  rw [h.hl] at h2
  exact ⟨h.hg, h2⟩

theorem Var.gr {w : World} {b : Nat} {sv : Value} {g : List (List Nat)} (h : Var w b sv g) : GraphIn w sv g := h.2
theorem dom_of {w : World} {sv : Value} {g : List (List Nat)} {xs : List Int} (h : GraphIn w sv g) (hx : idomL g = xs) : Calls Try.prog 23 #[.agg #[sv]] w (RetInts w xs) := by rw [← hx]; exact ans_dominators h
theorem ord_of {w : World} {sv : Value} {g : List (List Nat)} {xs : List Nat} (h : GraphIn w sv g) (hx : orderL g = xs) : Calls Try.prog 21 #[.agg #[sv]] w (RetNats w xs) := by rw [← hx]; exact ans_order h
theorem loops_of {w : World} {sv : Value} {g : List (List Nat)} {cs : List (Nat × List Nat)} (h : GraphIn w sv g) (hx : loopsL g = cs) : Calls Try.prog 26 #[.agg #[sv]] w (RetLoops w cs) := by rw [← hx]; exact ans_loops h
theorem red_of {w : World} {sv : Value} {g : List (List Nat)} {q : Bool} (h : GraphIn w sv g) (hx : redF g = q) : Calls Try.prog 28 #[.agg #[sv]] w fun e w' => e = .returned (.bool q) ∧ Below w.heap.size w w' := by rw [← hx]; exact ans_reducible h
theorem ordlen_of {w : World} {sv : Value} {g : List (List Nat)} {n : Nat} (h : GraphIn w sv g) (hx : (orderL g).length = n) : Calls Try.prog 21 #[.agg #[sv]] w fun e w' => ∃ a c, e = .returned (.slice a n c) ∧ Below w.heap.size w w' := by
  refine (ans_order h).mono ?_
  rintro e w' ⟨ov, rfl, ho, hb⟩
  obtain ⟨a, c, rfl⟩ := ownsRow_form ho
  exact ⟨a, c, by rw [hx], hb⟩
theorem looplen_of {w : World} {sv : Value} {g : List (List Nat)} {n : Nat} (h : GraphIn w sv g) (hx : (loopsL g).length = n) : Calls Try.prog 26 #[.agg #[sv]] w fun e w' => ∃ a c, e = .returned (.slice a n c) ∧ Below w.heap.size w w' := by
  refine (ans_loops h).mono ?_
  rintro e w' ⟨ov, rfl, ho, hb⟩
  obtain ⟨bvs, _, ho2, _⟩ := ho
  obtain ⟨a, c, rfl⟩ := ownsRow_form ho2
  exact ⟨a, c, by rw [hx], hb⟩

/-- Positions from 1, as a law lays them; 0 for what is not in the list. -/
def atP (n : Nat) (xs : List Nat) : List Int := xs.zipIdx.foldl (fun s p => s.set p.1 ((p.2 : Int) + 1)) (List.replicate n 0)
theorem atP_snoc (n : Nat) (xs : List Nat) (x : Nat) : atP n (xs ++ [x]) = (atP n xs).set x ((xs.length : Int) + 1) := by simp [atP, List.zipIdx_append]
theorem atP_len (n : Nat) (xs : List Nat) : (atP n xs).length = n := by
  unfold atP
  have : ∀ (l : List (Nat × Nat)) (s : List Int), (l.foldl (fun s p => s.set p.1 ((p.2 : Int) + 1)) s).length = s.length := by
    intro l
    induction l with
    | nil => intros; rfl
    | cons a l ih => intro s; rw [List.foldl_cons, ih]; simp
  rw [this]; simp
theorem atP_get {n : Nat} : ∀ (m : Nat) (xs : List Nat), xs.length = m → xs.Nodup → (∀ x ∈ xs, x < n) → (∀ (k x : Nat), xs[k]? = some x → (atP n xs)[x]? = some ((k : Int) + 1)) ∧ ∀ x, x < n → x ∉ xs → (atP n xs)[x]? = some 0 := by
  intro m
  induction m with
  | zero =>
    intro xs hl _ _
    rw [List.eq_nil_of_length_eq_zero hl]
    exact ⟨fun k x hk => by simp at hk, fun x hx _ => by simp [atP, List.getElem?_replicate, hx]⟩
  | succ m ih =>
    intro xs hl hn hx
    rcases List.eq_nil_or_concat xs with rfl | ⟨ys, y, rfl⟩
    · simp at hl
    · rw [List.concat_eq_append] at hl hn hx ⊢
      have hyl : ys.length = m := by simpa using hl
      have hn' := List.nodup_append.1 hn
      have IH := ih ys hyl hn'.1 (fun z hz => hx z (by simp [hz]))
      rw [atP_snoc]
      refine ⟨fun k x hk => ?_, fun x hxn hxs => ?_⟩
      · have hxl : x < (atP n ys).length := by rw [atP_len]; exact hx x (List.mem_of_getElem? hk)
        by_cases hkl : k < ys.length
        · rw [List.getElem?_append_left hkl] at hk
          have hne : y ≠ x := fun e => hn'.2.2 x (List.mem_of_getElem? hk) y (by simp) e.symm
          rw [List.getElem?_set_ne hne]
          exact IH.1 k x hk
        · rw [List.getElem?_append_right (by omega)] at hk
          have hk2 : k = ys.length := by
            have := (List.getElem?_eq_some_iff.1 hk).1
            simp at this; omega
          subst hk2
          simp at hk
          subst hk
          rw [List.getElem?_set_self hxl]
      · simp only [List.mem_append, List.mem_singleton, not_or] at hxs
        rw [List.getElem?_set_ne (fun e => hxs.2 e.symm)]
        exact IH.2 x hxn hxs.1
end Go.Proofs.Ytpfinkcnklkclaa
