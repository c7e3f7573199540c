/-
  Plain mathematics: the natural loops, as the reference computes them.
-/
import Derived.Test.YtpfinkcnklkclaaMIdom
set_option linter.unusedVariables false
set_option linter.unusedSimpArgs false
namespace Go.Proofs.Ytpfinkcnklkclaa

theorem Walk.cons {E : Nat → Nat → Prop} {P : Nat → Prop} {a b c : Nat} (h1 : E a b) (hp : P a) (h : Walk E P b c) : Walk E P a c := by
  induction h with
  | refl h2 => exact .snoc (.refl hp) h1 h2
  | snoc _ h3 h4 ih => exact .snoc ih h3 h4

def whF (f : Int → Bool) (n : Nat) : Nat := whites ((List.range n).map fun x : Nat => f (x : Int))
theorem add_all (n : Nat) : ∀ (l : List Nat) (st : (Int → Bool) × List Nat), (∀ u ∈ l, u < n) →
    (∀ x : Nat, (l.foldl addF st).1 (x : Int) = true ↔ st.1 (x : Int) = true ∨ x ∈ l) ∧ (∀ y : Nat, y ∈ (l.foldl addF st).2 ↔ y ∈ st.2 ∨ (y ∈ l ∧ st.1 (y : Int) = false)) ∧ (l.foldl addF st).2.length + whF (l.foldl addF st).1 n = st.2.length + whF st.1 n
  | [], st, _ => ⟨fun x => by simp, fun y => by simp, rfl⟩
  | s :: l, st, hl => by
    rw [List.foldl_cons]
    by_cases h : st.1 (s : Int) = true
    · have e : addF st s = st := by unfold addF; rw [if_pos h]
      rw [e]
      obtain ⟨h1, h2, h3⟩ := add_all n l st (fun u hu => hl u (by simp [hu]))
      refine ⟨fun x => ?_, fun y => ?_, h3⟩
      · rw [h1, List.mem_cons]
        constructor
        · rintro (h4 | h4)
          · exact .inl h4
          · exact .inr (.inr h4)
        · rintro (h4 | rfl | h4)
          · exact .inl h4
          · exact .inl h
          · exact .inr h4
      · rw [h2, List.mem_cons]
        constructor
        · rintro (h4 | ⟨h4, h5⟩)
          · exact .inl h4
          · exact .inr ⟨.inr h4, h5⟩
        · rintro (h4 | ⟨rfl | h4, h5⟩)
          · exact .inl h4
          · rw [h] at h5; simp at h5
          · exact .inr ⟨h4, h5⟩
    · have hf : st.1 (s : Int) = false := by simpa using h
      have hs := hl s (by simp)
      have e : addF st s = (fun y => if y = (s : Int) then true else st.1 y, st.2 ++ [s]) := by unfold addF; rw [if_neg h]
      rw [e]
      obtain ⟨h1, h2, h3⟩ := add_all n l (fun y => if y = (s : Int) then true else st.1 y, st.2 ++ [s]) (fun u hu => hl u (by simp [hu]))
      dsimp only at h1 h2 h3
      have hw : whF (fun y => if y = (s : Int) then true else st.1 y) n + 1 = whF st.1 n := by
        have h4 := whites_set (seen := (List.range n).map fun x : Nat => st.1 (x : Int)) (n := s) (by rw [List.getElem?_map, List.getElem?_range hs]; simp [hf])
        have h5 : ((List.range n).map fun x : Nat => if (x : Int) = (s : Int) then true else st.1 (x : Int)) = ((List.range n).map fun x : Nat => st.1 (x : Int)).set s true := by
          apply List.ext_getElem?
          intro i
          rw [List.getElem?_set]
          by_cases hi : i < n
          · rw [List.getElem?_map, List.getElem?_range hi, List.getElem?_map, List.getElem?_range hi]
            by_cases hsi : s = i
            · subst hsi; simp [hs]
            · rw [if_neg hsi]; simp; omega
          · rw [List.getElem?_eq_none (by simp; omega)]
            by_cases hsi : s = i
            · omega
            · rw [if_neg hsi, List.getElem?_eq_none (by simp; omega)]
        unfold whF
        rw [h5]; exact h4
      refine ⟨fun x => ?_, fun y => ?_, by rw [h3]; simp only [List.length_append, List.length_singleton]; omega⟩
      · rw [h1, List.mem_cons]
        by_cases hx : (x : Int) = (s : Int)
        · rw [if_pos hx]; have : x = s := by omega
          simp [this]
        · rw [if_neg hx]; have : x ≠ s := by omega
          simp [this]
      · rw [h2, List.mem_cons, List.mem_append, List.mem_singleton]
        by_cases hx : (y : Int) = (s : Int)
        · rw [if_pos hx]; have : y = s := by omega
          subst this; simp [hf]
        · rw [if_neg hx]; have : y ≠ s := by omega
          simp [this]

theorem step_all (dq : Nat → Nat → Bool) (h : Nat) : ∀ (l : List Nat) (b : Bool) (st : (Int → Bool) × List Nat), l.foldl (step1 dq h) (b, st) = (b || l.any (dq h), (l.filter (dq h)).foldl addF st)
  | [], b, st => by simp
  | u :: l, b, st => by
    rw [List.foldl_cons]
    by_cases hu : dq h u = true
    · have e : step1 dq h (b, st) u = (true, addF st u) := by unfold step1; rw [if_pos hu]
      rw [e, step_all dq h l]; simp [hu]
    · have e : step1 dq h (b, st) u = (b, st) := by unfold step1; rw [if_neg hu]
      rw [e, step_all dq h l]; simp [hu]

theorem work_ok {g : List (List Nat)} {ns : List Nat} (hO : OrdF g ns) (h : Nat) (T : List Nat) : ∀ (m : Nat) (f : Int → Bool) (work : List Nat), work.length + whF f g.length ≤ m →
    (∀ u ∈ work, u < g.length ∧ u ≠ h ∧ f (u : Int) = true) → (∀ x : Nat, f (x : Int) = true → x = h ∨ (Reach (GE g) x ∧ ∃ t ∈ T, Walk (GE g) (· ≠ h) x t)) → f (h : Int) = true → (∀ t ∈ T, f (t : Int) = true) →
    (∀ x : Nat, f (x : Int) = true → x ≠ h → x ∉ work → ∀ pr, (predsL g (0 :: ns))[x]? = some pr → ∀ p ∈ pr, f (p : Int) = true) →
    ∃ k F, WorkR (predsL g (0 :: ns)) k f work F ∧ ∀ x : Nat, F (x : Int) = true ↔ x = h ∨ (Reach (GE g) x ∧ ∃ t ∈ T, Walk (GE g) (· ≠ h) x t)
  | m, f, work, hm, h1, h2, h3, h4, h5 => by
    rcases List.eq_nil_or_concat work with rfl | ⟨st, n, rfl⟩
    · refine ⟨0, f, ⟨rfl, rfl⟩, fun x => ⟨h2 x, ?_⟩⟩
      rintro (rfl | ⟨hr, t, ht, hw⟩)
      · exact h3
      · have key : ∀ {a b : Nat}, Walk (GE g) (· ≠ h) a b → Reach (GE g) a → f (b : Int) = true → f (a : Int) = true := by
          intro a b hw
          induction hw with
          | refl _ => exact fun _ hf => hf
          | @snoc b c h6 h7 h8 ih =>
            intro hr hf
            have hrb : Reach (GE g) b := hr.trans (h6.imp (fun _ _ => trivial))
            have hrc : Reach (GE g) c := .snoc hrb h7 trivial
            have hcl : c < (predsL g (0 :: ns)).length := by rw [predsLen]; exact hO.lt c ((hO.mem c).2 hrc)
            exact ih hr (h5 c hf h8 (by simp) _ (List.getElem?_eq_getElem hcl) b ((predsL_mem (List.getElem?_eq_getElem hcl) b).2 ⟨(hO.mem b).2 hrb, h7⟩))
        exact key hw hr (h4 t ht)
    · obtain ⟨hnl, hnh, hnf⟩ := h1 n (by simp)
      have hnp : n < (predsL g (0 :: ns)).length := by rw [predsLen]; exact hnl
      obtain ⟨pr, hpr⟩ : ∃ pr, (predsL g (0 :: ns))[n]? = some pr := ⟨_, List.getElem?_eq_getElem hnp⟩
      have hpm := predsL_mem hpr
      obtain ⟨a1, a2, a3⟩ := add_all g.length pr (f, st) (fun u hu => hO.lt u ((hpm u).1 hu).1)
      simp only [List.concat_eq_append, List.length_append, List.length_singleton] at hm
      dsimp only at a1 a2 a3
      cases m with
      | zero => omega
      | succ m =>
        have q1 : ∀ u ∈ (pr.foldl addF (f, st)).2, u < g.length ∧ u ≠ h ∧ (pr.foldl addF (f, st)).1 (u : Int) = true := by
          intro u hu
          rcases (a2 u).1 hu with h6 | ⟨h6, h7⟩
          · have := h1 u (by simp [h6])
            exact ⟨this.1, this.2.1, (a1 u).2 (.inl this.2.2)⟩
          · exact ⟨hO.lt u ((hpm u).1 h6).1, fun e => by rw [e, h3] at h7; simp at h7, (a1 u).2 (.inr h6)⟩
        have q2 : ∀ x : Nat, (pr.foldl addF (f, st)).1 (x : Int) = true → x = h ∨ (Reach (GE g) x ∧ ∃ t ∈ T, Walk (GE g) (· ≠ h) x t) := by
          intro x hx
          rcases (a1 x).1 hx with h6 | h6
          · exact h2 x h6
          · by_cases e : x = h
            · exact .inl e
            · rcases h2 n hnf with h7 | ⟨_, t, ht, hw⟩
              · exact absurd h7 hnh
              · exact .inr ⟨(hO.mem x).1 ((hpm x).1 h6).1, t, ht, hw.cons ((hpm x).1 h6).2 e⟩
        have q3 : ∀ x : Nat, (pr.foldl addF (f, st)).1 (x : Int) = true → x ≠ h → x ∉ (pr.foldl addF (f, st)).2 → ∀ pr', (predsL g (0 :: ns))[x]? = some pr' → ∀ p ∈ pr', (pr.foldl addF (f, st)).1 (p : Int) = true := by
          intro x hx hxh hxw pr' hpr' p hp
          have hold : f (x : Int) = true → (pr.foldl addF (f, st)).1 (p : Int) = true := by
            intro h6
            by_cases hm2 : x ∈ st ++ [n]
            · rcases List.mem_append.1 hm2 with hm2 | hm2
              · exact absurd ((a2 x).2 (.inl hm2)) hxw
              · simp at hm2; subst hm2
                rw [hpr] at hpr'
                obtain rfl := Option.some.inj hpr'
                exact (a1 p).2 (.inr hp)
            · exact (a1 p).2 (.inl (h5 x h6 hxh (by simpa using hm2) pr' hpr' p hp))
          rcases (a1 x).1 hx with h6 | h6
          · exact hold h6
          · cases h7 : f (x : Int) with
            | true => exact hold h7
            | false => exact absurd ((a2 x).2 (.inr ⟨h6, h7⟩)) hxw
        obtain ⟨k, F, hk, hF⟩ := work_ok hO h T m (pr.foldl addF (f, st)).1 (pr.foldl addF (f, st)).2 (by omega) q1 q2 ((a1 h).2 (.inl h3)) (fun t ht => (a1 t).2 (.inl (h4 t ht))) q3
        exact ⟨k + 1, F, ⟨st, n, pr, by simp, hpr, hk⟩, hF⟩

/-- u is the end of a back edge to h. -/
def tailB (g : List (List Nat)) (h u : Nat) : Bool := (succ g u).contains h && domsB g h u
def bodyB (g : List (List Nat)) (h x : Nat) : Bool := decide (x = h) || (List.range g.length).any fun u => fromB g 0 (-1) x && tailB g h u && fromB g x h u
def loopsL (g : List (List Nat)) : List (Nat × List Nat) :=
  (List.range g.length).filterMap fun h => if (List.range g.length).any (tailB g h) then some (h, (List.range g.length).filter (bodyB g h)) else none

theorem tailB_iff {g : List (List Nat)} (hv : ValidG g) (h u : Nat) : tailB g h u = true ↔ RE g u h ∧ domsB g h u = true := by
  unfold tailB
  rw [Bool.and_eq_true, List.contains_iff_mem]
  exact ⟨fun ⟨h1, h2⟩ => ⟨⟨((domsB_iff hv h u).1 h2).2.1, h1⟩, h2⟩, fun ⟨h1, h2⟩ => ⟨h1.2, h2⟩⟩
theorem bodyB_iff {g : List (List Nat)} (hv : ValidG g) {h x : Nat} (hx : x < g.length) : bodyB g h x = true ↔ x = h ∨ (Reach (GE g) x ∧ ∃ t, t < g.length ∧ tailB g h t = true ∧ Walk (GE g) (· ≠ h) x t) := by
  unfold bodyB
  rw [Bool.or_eq_true, decide_eq_true_eq, List.any_eq_true]
  refine or_congr Iff.rfl ?_
  constructor
  · rintro ⟨t, ht, h1⟩
    rw [Bool.and_eq_true, Bool.and_eq_true, allB_iff hv, fromB_iff hv hx] at h1
    exact ⟨h1.1.1, t, List.mem_range.1 ht, h1.1.2, h1.2.imp (fun a h => by omega)⟩
  · rintro ⟨hr, t, ht, h1, h2⟩
    refine ⟨t, List.mem_range.2 ht, ?_⟩
    rw [Bool.and_eq_true, Bool.and_eq_true, allB_iff hv, fromB_iff hv hx]
    exact ⟨⟨hr, h1⟩, h2.imp (fun a h => by omega)⟩

theorem re_lt {g : List (List Nat)} (hv : ValidG g) {x : Nat} (h : Reach (GE g) x) : x < g.length := by
  unfold Reach at h
  cases h with
  | refl _ => exact hv.1
  | snoc _ h2 _ => exact succ_lt hv h2

/-- The loops of the program. -/
theorem loops_eq {g : List (List Nat)} (hv : ValidG g) {ns : List Nat} {D : List Int} (hO : OrdF g ns) (hD : DomF g ns D) :
    (∀ (h : Nat) (pr : List Nat), (predsL g (0 :: ns))[h]? = some pr → ∀ u ∈ pr, u < g.length ∧ ∃ k r, UpN D (atF (0 :: ns) (0 :: ns).length) (atF (0 :: ns) (0 :: ns).length (h : Int)) k u r ∧ domsB g h u = decide (r = h)) ∧
    ∃ F : Nat → Int → Bool, (∀ h, h < g.length → ∃ k, WorkR (predsL g (0 :: ns)) k (headSt (domsB g) (predsL g (0 :: ns)) h).2.1 (headSt (domsB g) (predsL g (0 :: ns)) h).2.2 (F h)) ∧
      loopsUpto (domsB g) (predsL g (0 :: ns)) F g.length g.length = loopsL g := by
  refine ⟨fun h pr hpr u hu => ?_, ?_⟩
  · obtain ⟨h1, h2⟩ := (predsL_mem hpr u).1 hu
    have hh : h ∈ 0 :: ns := (hO.mem h).2 (.snoc ((hO.mem u).1 h1) h2 trivial)
    exact ⟨hO.lt u h1, up_dom hv hO hD h1 hh⟩
  · have key : ∀ h, h < g.length → ∃ k F, WorkR (predsL g (0 :: ns)) k (headSt (domsB g) (predsL g (0 :: ns)) h).2.1 (headSt (domsB g) (predsL g (0 :: ns)) h).2.2 F ∧ ((headSt (domsB g) (predsL g (0 :: ns)) h).1 = (List.range g.length).any (tailB g h)) ∧ ∀ x : Nat, x < g.length → F (x : Int) = bodyB g h x := by
      intro h hh
      have hpl : h < (predsL g (0 :: ns)).length := by rw [predsLen]; exact hh
      obtain ⟨pr, hpr⟩ : ∃ pr, (predsL g (0 :: ns))[h]? = some pr := ⟨_, List.getElem?_eq_getElem hpl⟩
      have hpm := predsL_mem hpr
      have hgd : (predsL g (0 :: ns)).getD h [] = pr := by rw [List.getD_eq_getElem?_getD, hpr]; rfl
      unfold headSt
      rw [hgd]
      unfold head0
      rw [step_all]
      dsimp only
      have htl : ∀ u, u ∈ pr.filter (domsB g h) ↔ tailB g h u = true := by
        intro u
        rw [List.mem_filter, hpm, tailB_iff hv]
        exact ⟨fun ⟨⟨h1, h2⟩, h3⟩ => ⟨⟨(hO.mem u).1 h1, h2⟩, h3⟩, fun ⟨h1, h3⟩ => ⟨⟨(hO.mem u).2 h1.1, h1.2⟩, h3⟩⟩
      have htlt : ∀ u, tailB g h u = true → u < g.length := fun u hu => re_lt hv ((tailB_iff hv h u).1 hu).1.1
      obtain ⟨a1, a2, a3⟩ := add_all g.length (pr.filter (domsB g h)) (fun y => if y = (h : Int) then true else false, []) (fun u hu => htlt u ((htl u).1 hu))
      dsimp only at a1 a2
      have hfh : ∀ x : Nat, (if (x : Int) = (h : Int) then true else false) = true ↔ x = h := fun x => by
        by_cases e : (x : Int) = (h : Int)
        · rw [if_pos e]; simp; omega
        · rw [if_neg e]; simp; omega
      generalize hr2 : (pr.filter (domsB g h)).foldl addF (fun y => if y = (h : Int) then true else false, []) = r2 at a1 a2 ⊢
      have q1 : ∀ u ∈ r2.2, u < g.length ∧ u ≠ h ∧ r2.1 (u : Int) = true := by
        intro u hu
        rcases (a2 u).1 hu with h1 | ⟨h1, h2⟩
        · simp at h1
        · refine ⟨htlt u ((htl u).1 h1), fun e => ?_, (a1 u).2 (.inr h1)⟩
          rw [(hfh u).2 e] at h2; simp at h2
      have q2 : ∀ x : Nat, r2.1 (x : Int) = true → x = h ∨ (Reach (GE g) x ∧ ∃ t ∈ (pr.filter (domsB g h)).filter (fun t => decide (t ≠ h)), Walk (GE g) (· ≠ h) x t) := by
        intro x hx
        rcases (a1 x).1 hx with h1 | h1
        · exact .inl ((hfh x).1 h1)
        · by_cases e : x = h
          · exact .inl e
          · exact .inr ⟨((tailB_iff hv h x).1 ((htl x).1 h1)).1.1, x, List.mem_filter.2 ⟨h1, by simpa using e⟩, .refl e⟩
      have q3 : ∀ x : Nat, r2.1 (x : Int) = true → x ≠ h → x ∉ r2.2 → ∀ pr', (predsL g (0 :: ns))[x]? = some pr' → ∀ p ∈ pr', r2.1 (p : Int) = true := by
        intro x hx hxh hxw
        rcases (a1 x).1 hx with h1 | h1
        · exact absurd ((hfh x).1 h1) hxh
        · refine absurd ((a2 x).2 (.inr ⟨h1, ?_⟩)) hxw
          rw [← Bool.not_eq_true]
          exact fun h2 => hxh ((hfh x).1 h2)
      obtain ⟨k, F, hk, hF⟩ := work_ok hO h ((pr.filter (domsB g h)).filter (fun t => decide (t ≠ h))) _ _ _ (Nat.le_refl _) q1 q2 ((a1 h).2 (.inl ((hfh h).2 rfl))) (fun t ht => (a1 t).2 (.inr (List.mem_filter.1 ht).1)) q3
      refine ⟨k, F, hk, ?_, fun x hx => ?_⟩
      · rw [Bool.false_or, Bool.eq_iff_iff, List.any_eq_true, List.any_eq_true]
        constructor
        · rintro ⟨u, h1, h2⟩
          have h3 := (htl u).1 (List.mem_filter.2 ⟨h1, h2⟩)
          exact ⟨u, List.mem_range.2 (htlt u h3), h3⟩
        · rintro ⟨u, _, h2⟩
          have h3 := List.mem_filter.1 ((htl u).2 h2)
          exact ⟨u, h3.1, h3.2⟩
      · rw [Bool.eq_iff_iff, hF, bodyB_iff hv hx]
        refine or_congr Iff.rfl (and_congr Iff.rfl ⟨?_, ?_⟩)
        · rintro ⟨t, ht, hw⟩
          have h3 := (htl t).1 (List.mem_filter.1 ht).1
          exact ⟨t, htlt t h3, h3, hw⟩
        · rintro ⟨t, _, h3, hw⟩
          exact ⟨t, List.mem_filter.2 ⟨(htl t).2 h3, by simpa using hw.last⟩, hw⟩
    refine ⟨fun h => if hh : h < g.length then (key h hh).choose_spec.choose else fun _ => false, fun h hh => ?_, ?_⟩
    · dsimp only
      rw [dif_pos hh]
      exact ⟨(key h hh).choose, (key h hh).choose_spec.choose_spec.1⟩
    · unfold loopsUpto loopsL
      have hcongr : ∀ (l : List Nat) (p q : Nat → Option (Nat × List Nat)), (∀ x ∈ l, p x = q x) → l.filterMap p = l.filterMap q := by
        intro l p q
        induction l with
        | nil => intro _; rfl
        | cons a l ih => intro hpq; rw [List.filterMap_cons, List.filterMap_cons, hpq a (by simp), ih (fun x hx => hpq x (by simp [hx]))]
      refine hcongr _ _ _ (fun h hm => ?_)
      have hh := List.mem_range.1 hm
      have h1 := (key h hh).choose_spec.choose_spec.2.1
      have h2 := (key h hh).choose_spec.choose_spec.2.2
      dsimp only
      rw [dif_pos hh]
      have : bodyOf (key h hh).choose_spec.choose g.length = (List.range g.length).filter (bodyB g h) := by
        unfold bodyOf
        exact List.filter_congr (fun x hx => h2 x (List.mem_range.1 hx))
      rw [this, h1]
end Go.Proofs.Ytpfinkcnklkclaa
