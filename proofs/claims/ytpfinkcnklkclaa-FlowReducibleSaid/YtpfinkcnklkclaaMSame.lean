/-
  Graphs whose edges lead to the same nodes, in another order, have the same dominators, loops and reducibility, and orders of the same length; a graph whose edges lead to greater nodes only. No program in sight.
-/
import Derived.Test.YtpfinkcnklkclaaMRed2
set_option linter.unusedVariables false
set_option linter.unusedSimpArgs false
namespace Go.Proofs.Ytpfinkcnklkclaa

theorem bool_iff_eq {a b : Bool} (h : a = true ↔ b = true) : a = b := by cases a <;> cases b <;> simp_all

/-- The same edges. -/
structure Same (g h : List (List Nat)) : Prop where
  vg : ValidG g
  vh : ValidG h
  len : h.length = g.length
  mem : ∀ u s, s ∈ succ g u ↔ s ∈ succ h u
section
variable {g h : List (List Nat)}
theorem Same.ge (hs : Same g h) : GE g = GE h := by funext u s; exact propext (hs.mem u s)
theorem Same.re (hs : Same g h) : RE g = RE h := by funext u s; unfold RE; rw [hs.ge]; exact propext (and_congr Iff.rfl (hs.mem u s))
theorem Same.doms (hs : Same g h) : domsB g = domsB h := by
  funext d x
  refine bool_iff_eq ?_
  rw [domsB_iff hs.vg, domsB_iff hs.vh, hs.ge]
theorem Same.idomAt (hs : Same g h) (x : Nat) : idomAt h x = idomAt g x := by
  unfold Go.Proofs.Ytpfinkcnklkclaa.idomAt
  rw [hs.len]
  have : best1 h x = best1 g x := by funext b d; unfold best1; rw [hs.doms]
  rw [this]
theorem Same.idom (hs : Same g h) : idomL h = idomL g := by
  unfold idomL
  rw [hs.len]
  exact List.map_congr_left (fun x _ => hs.idomAt x)
theorem Same.tail (hs : Same g h) : tailB g = tailB h := by
  funext a b
  refine bool_iff_eq ?_
  rw [tailB_iff hs.vg, tailB_iff hs.vh, hs.re, hs.doms]
theorem Same.body (hs : Same g h) {hd x : Nat} (hx : x < g.length) : bodyB g hd x = bodyB h hd x := by
  refine bool_iff_eq ?_
  rw [bodyB_iff hs.vg hx, bodyB_iff hs.vh (by rw [hs.len]; exact hx), hs.ge, hs.len, hs.tail]
theorem Same.loops (hs : Same g h) : loopsL h = loopsL g := by
  unfold loopsL
  rw [hs.len, hs.tail]
  congr 1
  funext a
  rw [List.filter_congr (fun x hx => (hs.body (List.mem_range.1 hx)).symm)]
theorem Same.red (hs : Same g h) : redF h = redF g := by
  refine bool_iff_eq ?_
  rw [redF_iff hs.vg, redF_iff hs.vh, hs.re]
theorem len_of_mem {l m : List Nat} (hl : l.Nodup) (hm : m.Nodup) (h : ∀ x, x ∈ l ↔ x ∈ m) : l.length = m.length :=
  ((List.perm_ext_iff_of_nodup hl hm).2 h).length_eq
theorem Same.orderLen (hs : Same g h) : (orderL h).length = (orderL g).length := by
  obtain ⟨ns, hO⟩ := ordF hs.vg
  obtain ⟨ms, hP⟩ := ordF hs.vh
  rw [hO.eq, hP.eq]
  exact len_of_mem hP.nodup hO.nodup (fun x => by rw [hO.mem, hP.mem, hs.ge])
end

/-- Edges to greater nodes only. -/
def upG (g : List (List Nat)) : List (List Nat) := (List.range g.length).map fun u => (succ g u).filter fun s => decide (u < s)
theorem upG_len (g : List (List Nat)) : (upG g).length = g.length := by simp [upG]
theorem upG_succ {g : List (List Nat)} (u s : Nat) (h : s ∈ succ (upG g) u) : s ∈ succ g u ∧ u < s := by
  unfold succ at h
  rw [List.getD_eq_getElem?_getD] at h
  unfold upG at h
  rw [List.getElem?_map] at h
  by_cases hu : u < g.length
  · rw [List.getElem?_range hu] at h
    simpa using h
  · rw [List.getElem?_eq_none (by simpa using hu)] at h
    simp at h
theorem upG_valid {g : List (List Nat)} (hv : ValidG g) : ValidG (upG g) := by
  refine ⟨by rw [upG_len]; exact hv.1, fun l hl s hs => ?_⟩
  obtain ⟨u, hu⟩ := List.getElem?_of_mem hl
  have : s ∈ succ (upG g) u := by unfold succ; rw [List.getD_eq_getElem?_getD, hu]; exact hs
  rw [upG_len]
  exact succ_lt hv (upG_succ u s this).1

theorem up_walk {h : List (List Nat)} (hu : ∀ u s, s ∈ succ h u → u < s) {P : Nat → Prop} {a b : Nat} (hw : Walk (GE h) P a b) : a ≤ b ∧ ∀ d, b < d → Walk (GE h) (· ≠ d) a b := by
  induction hw with
  | refl h1 => exact ⟨Nat.le_refl _, fun d hd => .refl (by omega)⟩
  | @snoc b c h1 h2 h3 ih =>
    have := hu b c h2
    exact ⟨by omega, fun d hd => .snoc (ih.2 d (by omega)) h2 (by omega)⟩
theorem up_red {h : List (List Nat)} (hv : ValidG h) (hu : ∀ u s, s ∈ succ h u → u < s) : redF h = true := by
  rw [redF_iff hv]
  exact ⟨id, fun u s hus => .inl (hu u s hus.2)⟩
theorem up_loops {h : List (List Nat)} (hv : ValidG h) (hu : ∀ u s, s ∈ succ h u → u < s) : loopsL h = [] := by
  unfold loopsL
  rw [List.filterMap_eq_nil_iff]
  intro a _
  rw [if_neg]
  intro hc
  obtain ⟨u, _, ht⟩ := List.any_eq_true.1 hc
  rw [tailB_iff hv, domsB_iff hv] at ht
  exact ht.2.2.2 ((up_walk hu ht.2.2.1).2 a (hu u a ht.1.2))
theorem up_desc {h : List (List Nat)} (hu : ∀ u s, s ∈ succ h u → u < s) {L : List Nat} {a b : Nat} (hd : Desc h L a b) : a ≤ b := by
  induction hd with
  | refl a => exact Nat.le_refl _
  | step h1 _ _ ih => have := hu _ _ h1; omega
theorem up_order {h : List (List Nat)} {ns : List Nat} (hO : OrdF h ns) (hu : ∀ u s, s ∈ succ h u → u < s) {u s : Nat} (h1 : u ∈ 0 :: ns) (h2 : s ∈ succ h u) : s ∈ 0 :: ns ∧ posOf (0 :: ns) u < posOf (0 :: ns) s := by
  have hr := (hO.mem u).1 h1
  refine ⟨(hO.mem s).2 (.snoc hr h2 trivial), ?_⟩
  rcases hO.back u s ⟨hr, h2⟩ with h3 | h3
  · exact h3
  · have := up_desc hu h3; have := hu _ _ h2; omega
end Go.Proofs.Ytpfinkcnklkclaa
