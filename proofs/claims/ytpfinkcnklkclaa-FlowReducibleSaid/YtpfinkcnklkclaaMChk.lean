/-
  Plain mathematics: walks in a relation, dominance; the passes of Cooper, Harvey and Kennedy end, with the dominators.
-/
import Derived.Test.YtpfinkcnklkclaaSpec2
set_option linter.unusedVariables false
set_option linter.unusedSimpArgs false
namespace Go.Proofs.Ytpfinkcnklkclaa

/-- A walk by edges of E through nodes of which P holds. -/
inductive Walk (E : Nat → Nat → Prop) (P : Nat → Prop) : Nat → Nat → Prop
  | refl {a : Nat} : P a → Walk E P a a
  | snoc {a b c : Nat} : Walk E P a b → E b c → P c → Walk E P a c
theorem Walk.mono {E E' : Nat → Nat → Prop} {P P' : Nat → Prop} (hE : ∀ a b, P a → P b → E a b → E' a b) (hP : ∀ a, P a → P' a) {a b : Nat} (h : Walk E P a b) : P b ∧ Walk E' P' a b := by
  induction h with
  | refl h => exact ⟨h, .refl (hP _ h)⟩
  | snoc _ h2 h3 ih => exact ⟨h3, .snoc ih.2 (hE _ _ ih.1 h3 h2) (hP _ h3)⟩
theorem Walk.imp {E : Nat → Nat → Prop} {P P' : Nat → Prop} (hP : ∀ a, P a → P' a) {a b : Nat} (h : Walk E P a b) : Walk E P' a b := (h.mono (fun _ _ _ _ h => h) hP).2
theorem Walk.last {E : Nat → Nat → Prop} {P : Nat → Prop} {a b : Nat} (h : Walk E P a b) : P b := (h.mono (fun _ _ _ _ h => h) (fun _ h => h)).1
theorem Walk.first {E : Nat → Nat → Prop} {P : Nat → Prop} {a b : Nat} (h : Walk E P a b) : P a := by
  induction h with
  | refl h => exact h
  | snoc _ _ _ ih => exact ih
theorem Walk.trans {E : Nat → Nat → Prop} {P : Nat → Prop} {a b c : Nat} (h : Walk E P a b) (k : Walk E P b c) : Walk E P a c := by
  induction k with
  | refl _ => exact h
  | snoc _ h2 h3 ih => exact .snoc ih h2 h3

/-- d dominates x: no walk from the entry to x without d. -/
def Dom (E : Nat → Nat → Prop) (d x : Nat) : Prop := ¬ Walk E (· ≠ d) 0 x
def Reach (E : Nat → Nat → Prop) (x : Nat) : Prop := Walk E (fun _ => True) 0 x
theorem dom_refl (E : Nat → Nat → Prop) (x : Nat) : Dom E x x := fun h => h.last rfl
theorem dom_zero (E : Nat → Nat → Prop) (x : Nat) : Dom E 0 x := fun h => h.first rfl
theorem dom_pred {E : Nat → Nat → Prop} {d p x : Nat} (h : Dom E d x) (hne : d ≠ x) (hp : E p x) : Dom E d p := fun hw => h (.snoc hw hp (Ne.symm hne))
theorem dom_of_zero {E : Nat → Nat → Prop} {d : Nat} (h : Dom E d 0) : d = 0 := by
  by_cases e : d = 0
  · exact e
  · exact (h (.refl (Ne.symm e))).elim
theorem dom_preds {E : Nat → Nat → Prop} {d x : Nat} (hx : x ≠ 0) (h : ∀ p, E p x → Dom E d p) : Dom E d x := by
  intro hw
  cases hw with
  | refl _ => exact hx rfl
  | snoc h1 h2 _ => exact h _ h2 h1
theorem walk_split {E : Nat → Nat → Prop} {P : Nat → Prop} {x0 x : Nat} (b : Nat) (h : Walk E P x0 x) : Walk E (fun y => P y ∧ y ≠ b) x0 x ∨ Walk E P x0 b := by
  induction h with
  | refl h =>
    by_cases e : x0 = b
    · rw [← e]; exact .inr (.refl h)
    · exact .inl (.refl ⟨h, e⟩)
  | @snoc y c h1 h2 h3 ih =>
    rcases ih with ih | ih
    · by_cases e : c = b
      · rw [← e]; exact .inr (.snoc h1 h2 h3)
      · exact .inl (.snoc ih h2 ⟨h3, e⟩)
    · exact .inr ih
theorem dom_trans {E : Nat → Nat → Prop} {a b c : Nat} (h : Dom E a b) (k : Dom E b c) : Dom E a c := by
  intro hw
  rcases walk_split b hw with h1 | h1
  · exact k (h1.imp (fun _ h => h.2))
  · exact h h1
theorem dom_antisymm {E : Nat → Nat → Prop} {a b : Nat} (h : Dom E a b) (k : Dom E b a) (hr : Reach E a) : a = b := by
  by_cases e : a = b
  · exact e
  have key : ∀ {y : Nat}, Walk E (fun _ => True) 0 y → Walk E (fun z => z ≠ a ∧ z ≠ b) 0 y ∨ Walk E (· ≠ a) 0 b ∨ Walk E (· ≠ b) 0 a := by
    intro y hw
    induction hw with
    | refl _ =>
      by_cases h1 : 0 = a
      · exact .inr (.inr (by rw [← h1]; exact .refl (by rw [h1]; exact e)))
      · by_cases h2 : 0 = b
        · exact .inr (.inl (by rw [← h2]; exact .refl h1))
        · exact .inl (.refl ⟨h1, h2⟩)
    | @snoc x c _ h2 _ ih =>
      rcases ih with ih | ih | ih
      · by_cases h1 : c = a
        · subst h1; exact .inr (.inr (.snoc (ih.imp (fun _ h => h.2)) h2 e))
        · by_cases h3 : c = b
          · subst h3; exact .inr (.inl (.snoc (ih.imp (fun _ h => h.1)) h2 (Ne.symm e)))
          · exact .inl (.snoc ih h2 ⟨h1, h3⟩)
      · exact .inr (.inl ih)
      · exact .inr (.inr ih)
  rcases key hr with h1 | h1 | h1
  · exact absurd rfl h1.last.1
  · exact absurd h1 h
  · exact absurd h1 k

/-- The chain of immediate dominators as they stand. -/
inductive Anc (D : List Int) : Nat → Nat → Prop
  | refl (x : Nat) : Anc D x x
  | step {x y z : Nat} : D[x]? = some (y : Int) → Anc D y z → Anc D x z
theorem Anc.trans {D : List Int} {a b c : Nat} (h : Anc D a b) (k : Anc D b c) : Anc D a c := by
  induction h with
  | refl _ => exact k
  | step h1 _ ih => exact .step h1 (ih k)
def IsSet (D : List Int) (x : Nat) : Prop := ∃ y : Nat, D[x]? = some (y : Int)

/-- What is fixed: n nodes, the order 0 :: ns, positions. -/
structure Ctx (n : Nat) (ns : List Nat) (preds : List (List Nat)) (f : Int → Int) (at_ : Nat → Nat) (E : Nat → Nat → Prop) : Prop where
  lt : ∀ x ∈ 0 :: ns, x < n
  z : at_ 0 = 0
  sorted : ns.Pairwise (fun a b => at_ a < at_ b)
  pos : ∀ x ∈ ns, 0 < at_ x
  inj : ∀ x ∈ 0 :: ns, ∀ y ∈ 0 :: ns, at_ x = at_ y → x = y
  hf : ∀ x ∈ 0 :: ns, f (x : Int) = (at_ x : Int)
  pl : preds.length = n
  pm : ∀ v pr, preds[v]? = some pr → ∀ p, p ∈ pr ↔ E p v
  eo : ∀ u s, E u s → u ∈ 0 :: ns ∧ s ∈ 0 :: ns
  fw : ∀ v ∈ ns, ∃ p, E p v ∧ at_ p < at_ v

/-- The list of immediate dominators as it stands. -/
structure WF (n : Nat) (ns : List Nat) (at_ : Nat → Nat) (D : List Int) : Prop where
  len : D.length = n
  root : D[0]? = some 0
  up : ∀ x y : Nat, x ≠ 0 → D[x]? = some (y : Int) → at_ y < at_ x ∧ IsSet D y
  neg : ∀ (x : Nat) (v : Int), D[x]? = some v → v = -1 ∨ ∃ y : Nat, v = (y : Int)
  sub : ∀ x : Nat, IsSet D x → x ∈ 0 :: ns

section
variable {n : Nat} {ns : List Nat} {preds : List (List Nat)} {f : Int → Int} {at_ : Nat → Nat} {E : Nat → Nat → Prop}

theorem WF.set0 {D : List Int} (h : WF n ns at_ D) : IsSet D 0 := ⟨0, h.root⟩
theorem WF.anc0 {D : List Int} (h : WF n ns at_ D) {z : Nat} (ha : Anc D 0 z) : z = 0 := by
  have : ∀ {x z : Nat}, Anc D x z → x = 0 → z = 0 := by
    intro x z ha
    induction ha with
    | refl _ => exact id
    | @step x y z h1 _ ih =>
      rintro rfl
      rw [h.root] at h1
      exact ih (by have := Option.some.inj h1; omega)
  exact this ha rfl
theorem WF.anc_le {D : List Int} (h : WF n ns at_ D) {x z : Nat} (ha : Anc D x z) : IsSet D x → (z = x ∨ at_ z < at_ x) ∧ IsSet D z := by
  induction ha with
  | refl x => exact fun hs => ⟨.inl rfl, hs⟩
  | @step x y z h1 h2 ih =>
    intro hs
    by_cases hx : x = 0
    · subst hx
      rw [h.root] at h1
      have hy : y = 0 := by have := Option.some.inj h1; omega
      subst hy
      exact ih hs
    · obtain ⟨h3, h4⟩ := h.up x y hx h1
      obtain ⟨h5, h6⟩ := ih h4
      refine ⟨.inr ?_, h6⟩
      rcases h5 with rfl | h5 <;> omega
theorem WF.le {D : List Int} (h : WF n ns at_ D) {x z : Nat} (ha : Anc D x z) (hs : IsSet D x) : at_ z ≤ at_ x := by
  rcases (h.anc_le ha hs).1 with rfl | h1 <;> omega
theorem WF.to0 {D : List Int} (h : WF n ns at_ D) : ∀ (m x : Nat), at_ x ≤ m → IsSet D x → Anc D x 0
  | m, x, hm, hs => by
    by_cases hx : x = 0
    · subst hx; exact .refl _
    · obtain ⟨y, hy⟩ := hs
      obtain ⟨h1, h2⟩ := h.up x y hx hy
      cases m with
      | zero => omega
      | succ m => exact .step hy (WF.to0 h m y (by omega) h2)
theorem WF.lt {D : List Int} (h : WF n ns at_ D) {x : Nat} (hs : IsSet D x) : x < D.length := by
  obtain ⟨y, hy⟩ := hs; exact (List.getElem?_eq_some_iff.1 hy).1

theorem up_ok (hc : Ctx n ns preds f at_ E) {D : List Int} (h : WF n ns at_ D) (t : Nat) : ∀ (m a : Nat), at_ a ≤ m → IsSet D a →
    ∃ k r, UpN D f (t : Int) k a r ∧ Anc D a r ∧ IsSet D r ∧ at_ r ≤ t ∧ (r = a ∨ at_ r < at_ a) ∧ ∀ z, Anc D a z → at_ z ≤ t → Anc D r z
  | m, a, hm, hs => by
    have hfa := hc.hf a (h.sub a hs)
    by_cases hle : at_ a ≤ t
    · exact ⟨0, a, ⟨by rw [hfa]; omega, rfl⟩, .refl _, hs, hle, .inl rfl, fun z hz _ => hz⟩
    · have ha0 : a ≠ 0 := by rintro rfl; rw [hc.z] at hle; omega
      have hs0 := hs
      obtain ⟨y, hy⟩ := hs
      obtain ⟨h1, h2⟩ := h.up a y ha0 hy
      cases m with
      | zero => omega
      | succ m =>
        obtain ⟨k, r, a1, a2, a3, a4, a5, a6⟩ := up_ok hc h t m y (by omega) h2
        refine ⟨k + 1, r, ⟨by rw [hfa]; omega, y, h.lt h2, hy, a1⟩, .step hy a2, a3, a4, .inr (by rcases a5 with rfl | a5 <;> omega), fun z hz hzt => ?_⟩
        cases hz with
        | refl _ => omega
        | @step _ y' _ h3 h4 =>
          rw [hy] at h3
          have : y = y' := by have := Option.some.inj h3; omega
          subst this
          exact a6 z h4 hzt

theorem meet_ok (hc : Ctx n ns preds f at_ E) {D : List Int} (h : WF n ns at_ D) : ∀ (m a b : Nat), at_ a + at_ b ≤ m → IsSet D a → IsSet D b →
    ∃ k r, MeetN D f k a b r ∧ IsSet D r ∧ ∀ z, Anc D r z ↔ Anc D a z ∧ Anc D b z
  | m, a, b, hm, ha, hb => by
    by_cases e : a = b
    · subst e; exact ⟨0, a, ⟨rfl, rfl⟩, ha, fun z => by simp⟩
    · obtain ⟨j, a', u1, u2, u3, u4, u5, u6⟩ := up_ok hc h (at_ b) (at_ a) a (Nat.le_refl _) ha
      obtain ⟨j', b', v1, v2, v3, v4, v5, v6⟩ := up_ok hc h (at_ a') (at_ b) b (Nat.le_refl _) hb
      have hlt : at_ a' + at_ b' < at_ a + at_ b := by
        rcases u5 with rfl | u5
        · rcases v5 with rfl | v5
          · exact absurd (hc.inj _ (h.sub _ ha) _ (h.sub _ hb) (by omega)) e
          · omega
        · rcases v5 with rfl | v5 <;> omega
      cases m with
      | zero => omega
      | succ m =>
        obtain ⟨k, r, r1, r2, r3⟩ := meet_ok hc h m a' b' (by omega) u3 v3
        refine ⟨k + 1, r, ⟨e, j, a', by rw [hc.hf b (h.sub b hb)]; exact u1, j', b', by rw [hc.hf a' (h.sub a' u3)]; exact v1, r1⟩, r2, fun z => ?_⟩
        rw [r3]
        constructor
        · rintro ⟨h1, h2⟩; exact ⟨u2.trans h1, v2.trans h2⟩
        · rintro ⟨h1, h2⟩
          have h3 := u6 z h1 (h.le h2 hb)
          exact ⟨h3, v6 z h2 (h.le h3 u3)⟩

/-- The candidate after some predecessors. -/
def Cand (D : List Int) (S : List Nat) (d : Int) : Prop :=
  (d = -1 ∧ ∀ p ∈ S, ¬ IsSet D p) ∨ ∃ dn : Nat, d = (dn : Int) ∧ IsSet D dn ∧ ∀ z, Anc D dn z ↔ ∀ p ∈ S, IsSet D p → Anc D p z

theorem pick_ok (hc : Ctx n ns preds f at_ E) {D : List Int} (h : WF n ns at_ D) {p : Nat} (hp : p < D.length) {S : List Nat} {d : Int} (hd : Cand D S d) :
    ∃ d1, Cand D (S ++ [p]) d1 ∧ PickR D f p d d1 := by
  obtain ⟨x, hx⟩ : ∃ x, D[p]? = some x := ⟨_, List.getElem?_eq_getElem hp⟩
  rcases h.neg p x hx with rfl | ⟨y, rfl⟩
  · have hns : ¬ IsSet D p := fun ⟨y, hy⟩ => by rw [hx] at hy; have := Option.some.inj hy; omega
    refine ⟨d, ?_, -1, hx, .inl ⟨by omega, rfl⟩⟩
    rcases hd with ⟨h1, h2⟩ | ⟨dn, h1, h2, h3⟩
    · exact .inl ⟨h1, fun q hq => by rcases List.mem_append.1 hq with hq | hq; exact h2 q hq; simp at hq; subst hq; exact hns⟩
    · refine .inr ⟨dn, h1, h2, fun z => ?_⟩
      rw [h3]
      constructor
      · intro ha q hq hs
        rcases List.mem_append.1 hq with hq | hq
        · exact ha q hq hs
        · simp at hq; subst hq; exact absurd hs hns
      · exact fun ha q hq hs => ha q (List.mem_append.2 (.inl hq)) hs
  · have hs : IsSet D p := ⟨y, hx⟩
    rcases hd with ⟨rfl, h2⟩ | ⟨dn, rfl, h2, h3⟩
    · refine ⟨(p : Int), .inr ⟨p, rfl, hs, fun z => ?_⟩, _, hx, .inr (.inl ⟨by omega, by omega, rfl⟩)⟩
      constructor
      · intro ha q hq hq2
        rcases List.mem_append.1 hq with hq | hq
        · exact absurd hq2 (h2 q hq)
        · simp at hq; subst hq; exact ha
      · exact fun ha => ha p (by simp) hs
    · obtain ⟨k, r, r1, r2, r3⟩ := meet_ok hc h _ p dn (Nat.le_refl _) hs h2
      refine ⟨(r : Int), .inr ⟨r, rfl, r2, fun z => ?_⟩, _, hx, .inr (.inr ⟨by omega, dn, rfl, h.lt h2, k, r, r1, rfl⟩)⟩
      rw [r3, h3]
      constructor
      · rintro ⟨h4, h5⟩ q hq hq2
        rcases List.mem_append.1 hq with hq | hq
        · exact h5 q hq hq2
        · simp at hq; subst hq; exact h4
      · exact fun ha => ⟨ha p (by simp) hs, fun q hq hq2 => ha q (List.mem_append.2 (.inl hq)) hq2⟩

theorem preds_ok (hc : Ctx n ns preds f at_ E) {D : List Int} (h : WF n ns at_ D) : ∀ (l S : List Nat) (d : Int), (∀ p ∈ l, p < D.length) → Cand D S d → ∃ d1, Cand D (S ++ l) d1 ∧ PredsR D f l d d1
  | [], S, d, _, hd => ⟨d, by simpa using hd, rfl⟩
  | p :: l, S, d, hl, hd => by
    obtain ⟨d1, h1, h2⟩ := pick_ok hc h (hl p (by simp)) hd
    obtain ⟨d2, h3, h4⟩ := preds_ok hc h l (S ++ [p]) d1 (fun q hq => hl q (by simp [hq])) h1
    exact ⟨d2, by simpa using h3, d1, h2, h4⟩

theorem tot_ok (hc : Ctx n ns preds f at_ E) {D : List Int} (h : WF n ns at_ D) (l : List Nat) (hl : ∀ p ∈ l, p < D.length) : TotR D f l := by
  intro p hp
  refine ⟨hl p hp, fun d hd => ?_⟩
  have key : ∀ d1 S, Cand D S d1 → OkD D d1 := by
    rintro d1 S (⟨h1, _⟩ | ⟨dn, rfl, ⟨y, hy⟩, _⟩)
    · exact .inl h1
    · exact .inr ⟨dn, rfl, (List.getElem?_eq_some_iff.1 hy).1, _, hy, by omega⟩
  have hcd : ∃ S, Cand D S d := by
    rcases hd with rfl | ⟨dn, rfl, h1, x, hx, hx0⟩
    · exact ⟨[], .inl ⟨rfl, by simp⟩⟩
    · have hs : IsSet D dn := by rcases h.neg dn x hx with rfl | ⟨y, rfl⟩; omega; exact ⟨y, hx⟩
      exact ⟨[dn], .inr ⟨dn, rfl, hs, fun z => ⟨fun ha q hq _ => by simp at hq; subst hq; exact ha, fun ha => ha dn (by simp) hs⟩⟩⟩
  obtain ⟨S, hS⟩ := hcd
  obtain ⟨d1, h1, h2⟩ := pick_ok hc h (hl p hp) hS
  exact ⟨d1, key _ _ h1, h2⟩

/-- What the state E1 says of the node v. -/
def NodeOk (at_ : Nat → Nat) (E : Nat → Nat → Prop) (E1 : List Int) (v : Nat) (dn : Nat) : Prop :=
  at_ dn < at_ v ∧ IsSet E1 dn ∧ ∀ z, Anc E1 dn z ↔ ∀ p, E p v → IsSet E1 p → Anc E1 p z

theorem node_ok (hc : Ctx n ns preds f at_ E) {D : List Int} (h : WF n ns at_ D) {v : Nat} (hv : v ∈ ns) (hs : ∀ x ∈ 0 :: ns, at_ x < at_ v → IsSet D x) :
    ∃ pr dn, preds[v]? = some pr ∧ TotR D f pr ∧ PredsR D f pr (-1) (dn : Nat) ∧ NodeOk at_ E D v dn := by
  have hvn := hc.lt v (by simp [hv])
  obtain ⟨pr, hpr⟩ : ∃ pr, preds[v]? = some pr := ⟨_, List.getElem?_eq_getElem (by rw [hc.pl]; exact hvn)⟩
  have hm := hc.pm v pr hpr
  have hlt : ∀ p ∈ pr, p < D.length := fun p hp => by rw [h.len]; exact hc.lt p (hc.eo _ _ ((hm p).1 hp)).1
  obtain ⟨d, h1, h2⟩ := preds_ok hc h pr [] (-1) hlt (.inl ⟨rfl, by simp⟩)
  obtain ⟨p0, hp0, hlt0⟩ := hc.fw v hv
  have hs0 := hs p0 (hc.eo _ _ hp0).1 hlt0
  rcases h1 with ⟨_, h1⟩ | ⟨dn, rfl, h3, h4⟩
  · exact absurd hs0 (h1 p0 (by simpa using (hm p0).2 hp0))
  · have h4' : ∀ z, Anc D dn z ↔ ∀ p, E p v → IsSet D p → Anc D p z := fun z => by
      rw [h4]
      exact ⟨fun ha p hp => ha p (by simpa using (hm p).2 hp), fun ha p hp => ha p ((hm p).1 (by simpa using hp))⟩
    have := h.le (((h4' dn).1 (.refl _)) p0 hp0 hs0) hs0
    exact ⟨pr, dn, hpr, tot_ok hc h pr hlt, h2, by omega, h3, h4'⟩

theorem WF.put {D : List Int} (hc : Ctx n ns preds f at_ E) (h : WF n ns at_ D) {v dn : Nat} (hv : v ∈ ns) (h1 : at_ dn < at_ v) (h2 : IsSet D dn) : WF n ns at_ (D.set v (dn : Int)) := by
  have hvn := hc.lt v (by simp [hv])
  have hv0 : v ≠ 0 := by rintro rfl; have := hc.pos 0 hv; rw [hc.z] at this; omega
  have hvl : v < D.length := by rw [h.len]; exact hvn
  have key : ∀ x, IsSet D x → IsSet (D.set v (dn : Int)) x := by
    rintro x ⟨y, hy⟩
    by_cases e : v = x
    · subst e; exact ⟨dn, by rw [List.getElem?_set_self hvl]⟩
    · exact ⟨y, by rw [List.getElem?_set_ne e]; exact hy⟩
  refine ⟨by simpa using h.len, by rw [List.getElem?_set_ne hv0]; exact h.root, ?_, ?_, ?_⟩
  · intro x y hx hy
    by_cases e : v = x
    · subst e
      rw [List.getElem?_set_self hvl] at hy
      have : dn = y := by have := Option.some.inj hy; omega
      subst this
      exact ⟨h1, key _ h2⟩
    · rw [List.getElem?_set_ne e] at hy
      obtain ⟨h3, h4⟩ := h.up x y hx hy
      exact ⟨h3, key _ h4⟩
  · intro x w hw
    by_cases e : v = x
    · subst e
      rw [List.getElem?_set_self hvl] at hw
      exact .inr ⟨dn, (Option.some.inj hw).symm⟩
    · rw [List.getElem?_set_ne e] at hw
      exact h.neg x w hw
  · rintro x ⟨y, hy⟩
    by_cases e : v = x
    · subst e; simp [hv]
    · rw [List.getElem?_set_ne e] at hy
      exact h.sub x ⟨y, hy⟩

/-- One pass: at each node a state between the old and the new. -/
def PassOk (ns : List Nat) (at_ : Nat → Nat) (E : Nat → Nat → Prop) (n : Nat) (l : List Nat) (D D' : List Int) : Prop :=
  ∀ v ∈ l, ∃ (E1 : List Int) (dn : Nat), WF n ns at_ E1 ∧ (∀ y ∈ 0 :: ns, at_ y < at_ v → E1[y]? = D'[y]?) ∧ (∀ y : Nat, at_ v ≤ at_ y → E1[y]? = D[y]?) ∧ D'[v]? = some (dn : Int) ∧ NodeOk at_ E E1 v dn

theorem pass_ok (hc : Ctx n ns preds f at_ E) : ∀ (l : List Nat) (D : List Int) (ch : Bool), WF n ns at_ D → (∀ v ∈ l, v ∈ ns) → l.Pairwise (fun a b => at_ a < at_ b) → (∀ x ∈ 0 :: ns, x ∉ l → IsSet D x ∧ ∀ v ∈ l, at_ x < at_ v) →
    ∃ D' ch', PassR preds f l D ch D' ch' ∧ WF n ns at_ D' ∧ (∀ x : Nat, x ∉ l → D'[x]? = D[x]?) ∧ PassOk ns at_ E n l D D' ∧ (∀ x ∈ 0 :: ns, IsSet D' x) ∧ (ch' = false → ch = false ∧ D' = D) ∧ (ch' = true → ch = true ∨ D' ≠ D)
  | [], D, ch, h, _, _, hs => ⟨D, ch, ⟨rfl, rfl⟩, h, fun _ _ => rfl, fun v hv => by simp at hv, fun x hx => (hs x hx (by simp)).1, fun e => ⟨e, rfl⟩, .inl⟩
  | v :: l, D, ch, h, hl, hp, hs => by
    have hv := hl v (by simp)
    have hp1 := (List.pairwise_cons.1 hp).1
    have hp2 := (List.pairwise_cons.1 hp).2
    have hvl : v ∉ l := fun hm => by have := hp1 v hm; omega
    have hsv : ∀ x ∈ 0 :: ns, at_ x < at_ v → IsSet D x := by
      intro x hx hlt
      by_cases hm : x ∈ v :: l
      · rcases List.mem_cons.1 hm with rfl | hm
        · omega
        · have := hp1 x hm; omega
      · exact (hs x hx hm).1
    obtain ⟨pr, dn, b1, b2, b3, b4⟩ := node_ok hc h hv hsv
    have hvn : v < D.length := by rw [h.len]; exact hc.lt v (by simp [hv])
    obtain ⟨old, hold⟩ : ∃ old, D[v]? = some old := ⟨_, List.getElem?_eq_getElem hvn⟩
    have hw1 := h.put hc hv b4.1 b4.2.1
    have hself : (D.set v (dn : Int))[v]? = some (dn : Int) := List.getElem?_set_self hvn
    have hother : ∀ y : Nat, y ≠ v → (D.set v (dn : Int))[y]? = D[y]? := fun y hy => List.getElem?_set_ne (Ne.symm hy)
    obtain ⟨D', ch', c1, c2, c3, c4, c5, c6, c7⟩ := pass_ok hc l (D.set v (dn : Int)) (if old = (dn : Int) then ch else true) hw1 (fun x hx => hl x (by simp [hx])) hp2 (by
      intro x hx hm
      by_cases e : x = v
      · subst e; exact ⟨⟨dn, hself⟩, hp1⟩
      · have := hs x hx (by simp [e, hm])
        obtain ⟨⟨y, hy⟩, h2⟩ := this
        exact ⟨⟨y, by rw [hother x e]; exact hy⟩, fun u hu => h2 u (by simp [hu])⟩)
    refine ⟨D', ch', ⟨pr, dn, old, b1, b2, b3, hold, ?_⟩, c2, ?_, ?_, c5, ?_, ?_⟩
    · by_cases e : old = (dn : Int)
      · refine .inl ⟨e, ?_⟩
        have e2 : D.set v (dn : Int) = D := by
          apply List.ext_getElem?
          intro i
          by_cases hi : i = v
          · subst hi; rw [hself, hold, e]
          · exact hother i hi
        rw [if_pos e, e2] at c1
        exact c1
      · rw [if_neg e] at c1
        exact .inr ⟨e, c1⟩
    · intro x hx
      rw [c3 x (fun hm => hx (by simp [hm])), hother x (fun e => hx (by simp [e]))]
    · intro u hu0
      rcases List.mem_cons.1 hu0 with rfl | hu
      · refine ⟨D, dn, h, fun y hy hlt => ?_, fun _ _ => rfl, by rw [c3 u hvl]; exact hself, b4⟩
        rw [c3 y (fun hm => by have := hp1 y hm; omega), hother y (fun e => by subst e; omega)]
      · obtain ⟨E1, d1, e1, e2, e3, e4, e5⟩ := c4 u hu
        refine ⟨E1, d1, e1, e2, fun y hy => ?_, e4, e5⟩
        rw [e3 y hy, hother y (fun e => by have := hp1 u hu; rw [e] at hy; omega)]
    · intro e
      obtain ⟨d1, d2⟩ := c6 e
      by_cases e' : old = (dn : Int)
      · rw [if_pos e'] at d1
        refine ⟨d1, d2.trans ?_⟩
        apply List.ext_getElem?
        intro i
        by_cases hi : i = v
        · subst hi; rw [hself, hold, e']
        · exact hother i hi
      · rw [if_neg e'] at d1; simp at d1
    · intro e
      by_cases e' : old = (dn : Int)
      · have e2 : D.set v (dn : Int) = D := by
          apply List.ext_getElem?
          intro i
          by_cases hi : i = v
          · subst hi; rw [hself, hold, e']
          · exact hother i hi
        rcases c7 e with c7 | c7
        · rw [if_pos e'] at c7; exact .inl c7
        · rw [e2] at c7; exact .inr c7
      · refine .inr (fun e3 => e' ?_)
        have h1 := c3 v hvl
        rw [hself, e3, hold] at h1
        exact Option.some.inj h1
end
end Go.Proofs.Ytpfinkcnklkclaa
