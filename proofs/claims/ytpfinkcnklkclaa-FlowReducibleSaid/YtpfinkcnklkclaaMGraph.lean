/-
  Plain mathematics: the order of a graph, positions, predecessors; the immediate dominators exist.
-/
import Derived.Test.YtpfinkcnklkclaaMDfs
import Derived.Test.YtpfinkcnklkclaaMChk2
set_option linter.unusedVariables false
set_option linter.unusedSimpArgs false
namespace Go.Proofs.Ytpfinkcnklkclaa

def GE (g : List (List Nat)) (u s : Nat) : Prop := s ∈ succ g u
/-- Edges from reachable nodes. -/
def RE (g : List (List Nat)) (u s : Nat) : Prop := Reach (GE g) u ∧ s ∈ succ g u
def posOf (ord : List Nat) (x : Nat) : Nat := (atF ord ord.length (x : Int)).toNat

theorem atF_get {ord : List Nat} (hn : ord.Nodup) {i x : Nat} (hi : ord[i]? = some x) : ∀ (m : Nat), i < m → m ≤ ord.length → atF ord m (x : Int) = (i : Int)
  | 0, h, _ => by omega
  | m + 1, h, hm => by
    unfold atF
    have hil := (List.getElem?_eq_some_iff.1 hi).1
    have hx := (List.getElem?_eq_some_iff.1 hi).2
    have e : ord.getD m 0 = ord[m]'(by omega) := by rw [List.getD_eq_getElem?_getD, List.getElem?_eq_getElem (by omega)]; rfl
    rw [e]
    by_cases hmi : m = i
    · subst hmi; rw [hx, if_pos rfl]
    · rw [if_neg (by
        intro he
        have he' : x = ord[m]'(by omega) := by omega
        exact hmi ((List.getElem_inj (h₀ := by omega) (h₁ := hil) hn).1 (he'.symm.trans hx.symm)))]
      exact atF_get hn hi m (by omega) (by omega)
theorem posOf_get {ord : List Nat} (hn : ord.Nodup) {i x : Nat} (hi : ord[i]? = some x) : posOf ord x = i := by
  unfold posOf
  rw [atF_get hn hi _ (List.getElem?_eq_some_iff.1 hi).1 (Nat.le_refl _)]
  simp
theorem posOf_f {ord : List Nat} (hn : ord.Nodup) {x : Nat} (hx : x ∈ ord) : atF ord ord.length (x : Int) = (posOf ord x : Int) := by
  obtain ⟨i, hi⟩ := List.getElem?_of_mem hx
  rw [posOf_get hn hi, atF_get hn hi _ (List.getElem?_eq_some_iff.1 hi).1 (Nat.le_refl _)]
theorem posOf_pw {ord : List Nat} (hn : ord.Nodup) : ord.Pairwise (fun a b => posOf ord a < posOf ord b) := by
  rw [List.pairwise_iff_getElem]
  intro i j hi hj hij
  rw [posOf_get hn (List.getElem?_eq_getElem hi), posOf_get hn (List.getElem?_eq_getElem hj)]
  exact hij
theorem posOf_sub {ord : List Nat} (hn : ord.Nodup) {a b : Nat} (h : [a, b].Sublist ord) : posOf ord a < posOf ord b := by
  have := (posOf_pw hn).sublist h
  simpa using this
theorem posOf_inj {ord : List Nat} (hn : ord.Nodup) {a b : Nat} (ha : a ∈ ord) (hb : b ∈ ord) (h : posOf ord a = posOf ord b) : a = b := by
  obtain ⟨i, hi⟩ := List.getElem?_of_mem ha
  obtain ⟨j, hj⟩ := List.getElem?_of_mem hb
  rw [posOf_get hn hi, posOf_get hn hj] at h
  subst h
  rw [hi] at hj
  exact Option.some.inj hj

theorem addEdge_mem {P : List (List Nat)} {n s v : Nat} (hv : v < P.length) (p : Nat) : p ∈ (addEdge n P s).getD v [] ↔ p ∈ P.getD v [] ∨ (p = n ∧ v = s) := by
  unfold addEdge
  rw [List.getD_eq_getElem?_getD, List.getElem?_set]
  by_cases e : s = v
  · subst e
    rw [if_pos rfl, if_pos hv]
    simp
  · rw [if_neg e, ← List.getD_eq_getElem?_getD]
    simp [Ne.symm e]
theorem addEdge_length (n : Nat) (P : List (List Nat)) (s : Nat) : (addEdge n P s).length = P.length := by simp [addEdge]
theorem adds_mem (n : Nat) : ∀ (l : List Nat) (P : List (List Nat)) (v : Nat), v < P.length → ∀ p, p ∈ (l.foldl (addEdge n) P).getD v [] ↔ p ∈ P.getD v [] ∨ (p = n ∧ v ∈ l)
  | [], P, v, _, p => by simp
  | s :: l, P, v, hv, p => by
    rw [List.foldl_cons, adds_mem n l _ v (by rw [addEdge_length]; exact hv), addEdge_mem hv]
    simp only [List.mem_cons]
    constructor
    · rintro ((h | ⟨h1, h2⟩) | ⟨h1, h2⟩)
      · exact .inl h
      · exact .inr ⟨h1, .inl h2⟩
      · exact .inr ⟨h1, .inr h2⟩
    · rintro (h | ⟨h1, h2 | h2⟩)
      · exact .inl (.inl h)
      · exact .inl (.inr ⟨h1, h2⟩)
      · exact .inr ⟨h1, h2⟩
theorem adds_length (n : Nat) : ∀ (l : List Nat) (P : List (List Nat)), (l.foldl (addEdge n) P).length = P.length
  | [], _ => rfl
  | s :: l, P => by rw [List.foldl_cons, adds_length n l, addEdge_length]
theorem addsAll_mem (g : List (List Nat)) : ∀ (ord : List Nat) (P : List (List Nat)) (v : Nat), v < P.length → ∀ p, p ∈ (ord.foldl (addEdges g) P).getD v [] ↔ p ∈ P.getD v [] ∨ (p ∈ ord ∧ v ∈ succ g p)
  | [], P, v, _, p => by simp
  | n :: ord, P, v, hv, p => by
    rw [List.foldl_cons, addsAll_mem g ord _ v (by unfold addEdges; rw [adds_length]; exact hv)]
    unfold addEdges
    rw [adds_mem n _ P v hv]
    simp only [List.mem_cons]
    constructor
    · rintro ((h | ⟨h1, h2⟩) | ⟨h1, h2⟩)
      · exact .inl h
      · subst h1; exact .inr ⟨.inl rfl, h2⟩
      · exact .inr ⟨.inr h1, h2⟩
    · rintro (h | ⟨h1 | h1, h2⟩)
      · exact .inl (.inl h)
      · subst h1; exact .inl (.inr ⟨rfl, h2⟩)
      · exact .inr ⟨h1, h2⟩
theorem predsLen (g : List (List Nat)) (ord : List Nat) : (predsL g ord).length = g.length := by
  have : ∀ (ord : List Nat) (P : List (List Nat)), (ord.foldl (addEdges g) P).length = P.length := by
    intro ord
    induction ord with
    | nil => intros; rfl
    | cons a l ih => intro P; rw [List.foldl_cons, ih]; unfold addEdges; rw [adds_length]
  unfold predsL; rw [this]; simp
theorem predsL_mem {g : List (List Nat)} {ord : List Nat} {v : Nat} {pr : List Nat} (h : (predsL g ord)[v]? = some pr) (p : Nat) : p ∈ pr ↔ p ∈ ord ∧ v ∈ succ g p := by
  have hv := (List.getElem?_eq_some_iff.1 h).1
  rw [predsLen] at hv
  have := addsAll_mem g ord (List.replicate g.length []) v (by simpa using hv) p
  have e : (List.foldl (addEdges g) (List.replicate g.length []) ord).getD v [] = pr := by
    rw [List.getD_eq_getElem?_getD]; unfold predsL at h; rw [h]; rfl
  rw [e] at this
  rw [this]
  simp [List.getD_eq_getElem?_getD, List.getElem?_replicate]
  intro h1
  split at h1 <;> simp at h1

/-- The order of a graph. -/
structure OrdF (g : List (List Nat)) (ns : List Nat) : Prop where
  is : IsOrder g (0 :: ns)
  eq : orderL g = 0 :: ns
  nodup : (0 :: ns).Nodup
  lt : ∀ x ∈ 0 :: ns, x < g.length
  mem : ∀ x, x ∈ 0 :: ns ↔ Reach (GE g) x
  fwd : ∀ x ∈ ns, ∃ p, RE g p x ∧ posOf (0 :: ns) p < posOf (0 :: ns) x
  back : ∀ x s, RE g x s → posOf (0 :: ns) x < posOf (0 :: ns) s ∨ Desc g (postL g) s x
  sub : ∀ a b, [a, b].Sublist (postL g) → posOf (0 :: ns) b < posOf (0 :: ns) a

theorem ordF {g : List (List Nat)} (hv : ValidG g) : ∃ ns, OrdF g ns := by
  obtain ⟨L, h1, h2, h3, k, hk⟩ := post_ok hv
  have he : orderL g = 0 :: L.reverse := by unfold orderL; rw [h1]; simp
  have hr : (0 :: L.reverse).reverse = postL g := by rw [h1]; simp
  have hnd : (0 :: L.reverse).Nodup := by rw [← he]; unfold orderL; exact List.pairwise_reverse.2 (h2.imp (fun h => Ne.symm h))
  have hmm : ∀ x, x ∈ 0 :: L.reverse ↔ x ∈ postL g := fun x => by rw [← hr]; exact List.mem_reverse.symm
  have hsub : ∀ a b, [a, b].Sublist (postL g) → posOf (0 :: L.reverse) b < posOf (0 :: L.reverse) a := by
    intro a b hab
    refine posOf_sub hnd ?_
    have := List.reverse_sublist.2 hab
    rw [← he]
    simpa [orderL] using this
  have hdr : ∀ {a x : Nat}, Desc g (postL g) a x → Walk (GE g) (fun _ => True) 0 a → Walk (GE g) (fun _ => True) 0 x := by
    intro a x hd
    induction hd with
    | refl a => exact id
    | step h4 _ _ ih => exact fun hw => ih (.snoc hw h4 trivial)
  have hmem : ∀ x, x ∈ 0 :: L.reverse ↔ Reach (GE g) x := by
    intro x
    rw [hmm]
    constructor
    · exact fun hx => hdr (h3 x hx).2.1 (.refl trivial)
    · intro hw
      unfold Reach at hw
      induction hw with
      | refl _ => rw [h1]; simp
      | snoc _ h4 _ ih => exact ((h3 _ ih).2.2 _ h4).1
  refine ⟨L.reverse, ⟨⟨k, by rw [hr]; exact hk⟩, he, hnd, fun x hx => (h3 x ((hmm x).1 hx)).1, hmem, fun x hx => ?_, fun x s hxs => ?_, hsub⟩⟩
  · have hx0 : x ≠ 0 := by rintro rfl; exact (List.nodup_cons.1 hnd).1 hx
    rcases (h3 x ((hmm x).1 (by simp [hx]))).2.1.last with h4 | ⟨p, h4, h5, h6⟩
    · exact absurd h4.symm hx0
    · exact ⟨p, ⟨hdr h4 (.refl trivial), h5⟩, hsub x p h6⟩
  · rcases ((h3 x ((hmm x).1 ((hmem x).2 hxs.1))).2.2 s hxs.2).2 with h4 | h4
    · exact .inl (hsub s x h4)
    · exact .inr h4

theorem OrdF.ctx {g : List (List Nat)} {ns : List Nat} (h : OrdF g ns) : Ctx g.length ns (predsL g (0 :: ns)) (atF (0 :: ns) (ns.length + 1)) (posOf (0 :: ns)) (RE g) := by
  have h0 : posOf (0 :: ns) 0 = 0 := posOf_get h.nodup (i := 0) rfl
  have hpw := List.pairwise_cons.1 (posOf_pw h.nodup)
  refine ⟨h.lt, h0, hpw.2, fun x hx => by have := hpw.1 x hx; omega, fun x hx y hy => posOf_inj h.nodup hx hy, fun x hx => posOf_f h.nodup hx, predsLen _ _, fun v pr hpr p => ?_, fun u s hus => ⟨(h.mem u).2 hus.1, (h.mem s).2 (.snoc hus.1 hus.2 trivial)⟩, h.fwd⟩
  rw [predsL_mem hpr, h.mem]; rfl

/-- The immediate dominators of a graph. -/
structure DomF (g : List (List Nat)) (ns : List Nat) (D : List Int) : Prop where
  of : DomOf g ns D
  wf : WF g.length ns (posOf (0 :: ns)) D
  all : ∀ x ∈ 0 :: ns, IsSet D x
  anc : ∀ x ∈ 0 :: ns, ∀ z, Anc D x z ↔ Dom (GE g) z x
theorem re_dom {g : List (List Nat)} {z x : Nat} : Dom (RE g) z x ↔ Dom (GE g) z x := by
  have h1 : ∀ {y : Nat}, Walk (GE g) (· ≠ z) 0 y → Walk (RE g) (· ≠ z) 0 y := by
    intro y hw
    induction hw with
    | refl h => exact .refl h
    | snoc h1 h2 h3 ih => exact .snoc ih ⟨h1.imp (fun _ _ => trivial), h2⟩ h3
  exact ⟨fun h hw => h (h1 hw), fun h hw => h (hw.mono (fun _ _ _ _ h => h.2) (fun _ h => h)).2⟩
theorem OrdF.dom {g : List (List Nat)} {ns : List Nat} (h : OrdF g ns) : ∃ D, DomF g ns D := by
  obtain ⟨k, D, h1, h2, h3, h4⟩ := chk h.ctx
  exact ⟨D, ⟨k, h1⟩, h2, h3, fun x hx z => (h4 x hx z).trans re_dom⟩
end Go.Proofs.Ytpfinkcnklkclaa
