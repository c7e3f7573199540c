/-
  Plain mathematics: the immediate dominators, as the reference computes them.
-/
import Derived.Test.YtpfinkcnklkclaaMFrom
set_option linter.unusedVariables false
set_option linter.unusedSimpArgs false
namespace Go.Proofs.Ytpfinkcnklkclaa

/-- One candidate. -/
def best1 (g : List (List Nat)) (x : Nat) (best : Int) (d : Nat) : Int := if d ≠ x ∧ domsB g d x = true ∧ (best < 0 ∨ domsB g best.toNat d = true) then (d : Int) else best
def idomAt (g : List (List Nat)) (x : Nat) : Int := (List.range g.length).foldl (best1 g x) (-1)
def idomL (g : List (List Nat)) : List Int := (List.range g.length).map (idomAt g)

theorem anc_lin {D : List Int} {x a b : Nat} (ha : Anc D x a) (hb : Anc D x b) : Anc D a b ∨ Anc D b a := by
  induction ha with
  | refl _ => exact .inl hb
  | @step x y a h1 h2 ih =>
    cases hb with
    | refl _ => exact .inr (.step h1 h2)
    | @step _ w _ h3 h4 =>
      rw [h1] at h3
      have : y = w := by have := Option.some.inj h3; omega
      subst this
      exact ih h4
theorem DomF.dom_lin {g : List (List Nat)} {ns : List Nat} {D : List Int} (hD : DomF g ns D) {x a b : Nat} (hx : x ∈ 0 :: ns) (ha : Dom (GE g) a x) (hb : Dom (GE g) b x) : Dom (GE g) a b ∨ Dom (GE g) b a := by
  have ha' := (hD.anc x hx a).2 ha
  have hb' := (hD.anc x hx b).2 hb
  have hao := hD.wf.sub a (hD.wf.anc_le ha' (hD.all x hx)).2
  have hbo := hD.wf.sub b (hD.wf.anc_le hb' (hD.all x hx)).2
  rcases anc_lin ha' hb' with h | h
  · exact .inr ((hD.anc a hao b).1 h)
  · exact .inl ((hD.anc b hbo a).1 h)
theorem DomF.dom_mem {g : List (List Nat)} {ns : List Nat} {D : List Int} (hD : DomF g ns D) {x a : Nat} (hx : x ∈ 0 :: ns) (ha : Dom (GE g) a x) : a ∈ 0 :: ns ∧ posOf (0 :: ns) a ≤ posOf (0 :: ns) x := by
  have ha' := (hD.anc x hx a).2 ha
  exact ⟨hD.wf.sub a (hD.wf.anc_le ha' (hD.all x hx)).2, hD.wf.le ha' (hD.all x hx)⟩

theorem best_fold {g : List (List Nat)} (hv : ValidG g) {ns : List Nat} {D : List Int} (hO : OrdF g ns) (hD : DomF g ns D) (x : Nat) : ∀ (m : Nat),
    ((List.range m).foldl (best1 g x) (-1) = -1 ∧ ∀ d < m, ¬ (d ≠ x ∧ domsB g d x = true)) ∨
    ∃ b : Nat, (List.range m).foldl (best1 g x) (-1) = (b : Int) ∧ b ≠ x ∧ domsB g b x = true ∧ ∀ d < m, d ≠ x → domsB g d x = true → Dom (GE g) d b
  | 0 => .inl ⟨rfl, fun d hd => by omega⟩
  | m + 1 => by
    rw [List.range_succ, List.foldl_append, List.foldl_cons, List.foldl_nil]
    rcases best_fold hv hO hD x m with ⟨h1, h2⟩ | ⟨b, h1, h2, h3, h4⟩
    · rw [h1]
      by_cases hm : m ≠ x ∧ domsB g m x = true
      · refine .inr ⟨m, by unfold best1; rw [if_pos ⟨hm.1, hm.2, .inl (by omega)⟩], hm.1, hm.2, fun d hd hdx hdd => ?_⟩
        by_cases e : d = m
        · subst e; exact dom_refl _ _
        · exact absurd ⟨hdx, hdd⟩ (h2 d (by omega))
      · refine .inl ⟨by unfold best1; rw [if_neg (fun h => hm ⟨h.1, h.2.1⟩)], fun d hd => ?_⟩
        by_cases e : d = m
        · subst e; exact hm
        · exact h2 d (by omega)
    · rw [h1]
      have hb := (domsB_iff hv b x).1 h3
      have hx : x ∈ 0 :: ns := (hO.mem x).2 hb.2.1
      by_cases hm : m ≠ x ∧ domsB g m x = true
      · have hm2 := (domsB_iff hv m x).1 hm.2
        by_cases hbm : domsB g b m = true
        · have hbm2 := (domsB_iff hv b m).1 hbm
          refine .inr ⟨m, by unfold best1; rw [if_pos ⟨hm.1, hm.2, .inr (by simpa using hbm)⟩], hm.1, hm.2, fun d hd hdx hdd => ?_⟩
          by_cases e : d = m
          · subst e; exact dom_refl _ _
          · exact dom_trans (h4 d (by omega) hdx hdd) hbm2.2.2
        · refine .inr ⟨b, by unfold best1; rw [if_neg (fun h => by rcases h.2.2 with h | h; omega; exact hbm (by simpa using h))], h2, h3, fun d hd hdx hdd => ?_⟩
          by_cases e : d = m
          · subst e
            rcases hD.dom_lin hx hb.2.2 hm2.2.2 with h | h
            · exact absurd ((domsB_iff hv b d).2 ⟨hb.1, hm2.1, h⟩) hbm
            · exact h
          · exact h4 d (by omega) hdx hdd
      · refine .inr ⟨b, by unfold best1; rw [if_neg (fun h => hm ⟨h.1, h.2.1⟩)], h2, h3, fun d hd hdx hdd => ?_⟩
        by_cases e : d = m
        · subst e; exact absurd ⟨hdx, hdd⟩ hm
        · exact h4 d (by omega) hdx hdd

theorem idom_eq {g : List (List Nat)} (hv : ValidG g) {ns : List Nat} {D : List Int} (hO : OrdF g ns) (hD : DomF g ns D) : D.set 0 (-1) = idomL g := by
  apply List.ext_getElem?
  intro x
  by_cases hx : x < g.length
  · have hr : (idomL g)[x]? = some (idomAt g x) := by unfold idomL; rw [List.getElem?_map, List.getElem?_range hx]; rfl
    rw [hr]
    have hdx : x < D.length := by rw [hD.wf.len]; exact hx
    have hf := best_fold hv hO hD x g.length
    by_cases h0 : x = 0
    · subst h0
      rw [List.getElem?_set_self hdx]
      rcases hf with ⟨h1, _⟩ | ⟨b, h1, h2, h3, _⟩
      · exact congrArg some h1.symm
      · exact absurd (dom_of_zero ((domsB_iff hv b 0).1 h3).2.2) h2
    · rw [List.getElem?_set_ne (Ne.symm h0)]
      by_cases hxo : x ∈ 0 :: ns
      · obtain ⟨y, hy⟩ := hD.all x hxo
        obtain ⟨hlt, hys⟩ := hD.wf.up x y h0 hy
        have hyo := hD.wf.sub y hys
        have hyx : y ≠ x := fun e => by rw [e] at hlt; omega
        have hyd : Dom (GE g) y x := (hD.anc x hxo y).1 (.step hy (.refl _))
        have hyB : domsB g y x = true := (domsB_iff hv y x).2 ⟨(hO.mem y).1 hyo, (hO.mem x).1 hxo, hyd⟩
        rcases hf with ⟨_, h2⟩ | ⟨b, h1, h2, h3, h4⟩
        · exact absurd ⟨hyx, hyB⟩ (h2 y (hO.lt y hyo))
        · have hb := (domsB_iff hv b x).1 h3
          have h5 := h4 y (hO.lt y hyo) hyx hyB
          have h6 := (hD.anc x hxo b).2 hb.2.2
          have h7 : Anc D y b := by
            cases h6 with
            | refl _ => exact absurd rfl h2
            | @step _ w _ h8 h9 =>
              rw [hy] at h8
              have : y = w := by have := Option.some.inj h8; omega
              subst this; exact h9
          have h8 := dom_antisymm h5 ((hD.anc y hyo b).1 h7) ((hO.mem y).1 hyo)
          subst h8
          rw [hy]; exact congrArg some h1.symm
      · obtain ⟨w, hw⟩ : ∃ w, D[x]? = some w := ⟨_, List.getElem?_eq_getElem hdx⟩
        rw [hw]
        rcases hD.wf.neg x w hw with rfl | ⟨y, rfl⟩
        · rcases hf with ⟨h1, _⟩ | ⟨b, h1, h2, h3, _⟩
          · exact congrArg some h1.symm
          · exact absurd ((hO.mem x).2 ((domsB_iff hv b x).1 h3).2.1) hxo
        · exact absurd (hD.wf.sub x ⟨y, hw⟩) hxo
  · rw [List.getElem?_eq_none (by simp [hD.wf.len]; omega), List.getElem?_eq_none (by simp [idomL]; omega)]

/-- The edges' test of Reducible. -/
def okB (g : List (List Nat)) (u s : Nat) : Bool := decide (posOf (orderL g) u < posOf (orderL g) s) || domsB g s u
def redF (g : List (List Nat)) : Bool := (orderL g).all fun u => (succ g u).all fun s => okB g u s
theorem edge_ok {g : List (List Nat)} (hv : ValidG g) {ns : List Nat} {D : List Int} (hO : OrdF g ns) (hD : DomF g ns D) {u s : Nat} (hu : u ∈ 0 :: ns) (hs : s ∈ succ g u) : EdgeR D (atF (0 :: ns) (ns.length + 1)) u s (okB g u s) := by
  have hus : Reach (GE g) s := .snoc ((hO.mem u).1 hu) hs trivial
  have hso := (hO.mem s).2 hus
  have hfu := posOf_f hO.nodup hu
  have hfs := posOf_f hO.nodup hso
  unfold EdgeR okB
  rw [hO.eq]
  simp only [List.length_cons] at hfu hfs
  rw [hfu, hfs]
  by_cases h : posOf (0 :: ns) u < posOf (0 :: ns) s
  · exact .inl ⟨by omega, by simp [h]⟩
  · obtain ⟨k, r, h1, h2, h3, h4, h5, h6⟩ := up_ok hO.ctx hD.wf (posOf (0 :: ns) s) _ u (Nat.le_refl _) (hD.all u hu)
    refine .inr ⟨by omega, k, r, h1, ?_⟩
    rw [decide_eq_false h, Bool.false_or, Bool.eq_iff_iff, decide_eq_true_eq, domsB_iff hv]
    constructor
    · rintro ⟨_, _, hd⟩
      have h7 := h6 s ((hD.anc u hu s).2 hd) (Nat.le_refl _)
      have h8 := hD.wf.le h7 h3
      exact posOf_inj hO.nodup (hD.wf.sub r h3) hso (by omega)
    · rintro rfl
      exact ⟨hus, (hO.mem u).1 hu, (hD.anc u hu r).1 h2⟩
theorem up_dom {g : List (List Nat)} (hv : ValidG g) {ns : List Nat} {D : List Int} (hO : OrdF g ns) (hD : DomF g ns D) {u h : Nat} (hu : u ∈ 0 :: ns) (hh : h ∈ 0 :: ns) : ∃ k r, UpN D (atF (0 :: ns) (ns.length + 1)) (atF (0 :: ns) (ns.length + 1) (h : Int)) k u r ∧ domsB g h u = decide (r = h) := by
  have hfh := posOf_f hO.nodup hh
  simp only [List.length_cons] at hfh
  rw [hfh]
  obtain ⟨k, r, h1, h2, h3, h4, h5, h6⟩ := up_ok hO.ctx hD.wf (posOf (0 :: ns) h) _ u (Nat.le_refl _) (hD.all u hu)
  refine ⟨k, r, h1, ?_⟩
  rw [Bool.eq_iff_iff, decide_eq_true_eq, domsB_iff hv]
  constructor
  · rintro ⟨_, _, hd⟩
    have h7 := h6 h ((hD.anc u hu h).2 hd) (Nat.le_refl _)
    have h8 := hD.wf.le h7 h3
    exact posOf_inj hO.nodup (hD.wf.sub r h3) hh (by omega)
  · rintro rfl
    exact ⟨(hO.mem r).1 hh, (hO.mem u).1 hu, (hD.anc u hu r).1 h2⟩
end Go.Proofs.Ytpfinkcnklkclaa
