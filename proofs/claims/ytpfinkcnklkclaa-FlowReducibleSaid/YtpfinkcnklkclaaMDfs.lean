/-
  Plain mathematics of the depth-first search: what the recursive search leaves; the run with the explicit stack exists.
-/
import Derived.Test.YtpfinkcnklkclaaSpec
set_option linter.unusedVariables false
set_option linter.unusedSimpArgs false
namespace Go.Proofs.Ytpfinkcnklkclaa

/-- A path from a to b by edges to nodes that are finished earlier. -/
inductive Desc (g : List (List Nat)) (L : List Nat) : Nat → Nat → Prop
  | refl (a : Nat) : Desc g L a a
  | step {a c b : Nat} : c ∈ succ g a → [c, a].Sublist L → Desc g L c b → Desc g L a b
theorem Desc.mono {g : List (List Nat)} {L L' : List Nat} (hL : L.Sublist L') {a b : Nat} (h : Desc g L a b) : Desc g L' a b := by
  induction h with
  | refl a => exact .refl a
  | step h1 h2 _ ih => exact .step h1 (h2.trans hL) ih
theorem Desc.last {g : List (List Nat)} {L : List Nat} {a b : Nat} (h : Desc g L a b) : a = b ∨ ∃ p, Desc g L a p ∧ b ∈ succ g p ∧ [b, p].Sublist L := by
  induction h with
  | refl a => exact .inl rfl
  | @step a c b h1 h2 h3 ih =>
    rcases ih with rfl | ⟨p, h4, h5, h6⟩
    · exact .inr ⟨a, .refl a, h1, h2⟩
    · exact .inr ⟨p, .step h1 h2 h4, h5, h6⟩

/-- What a search leaves: L the nodes finished, in order. -/
structure Found (g : List (List Nat)) (seen seen' : List Bool) (L : List Nat) : Prop where
  len : seen'.length = seen.length
  mem : ∀ x : Nat, x ∈ L ↔ (seen'[x]? = some true ∧ seen[x]? = some false)
  keep : ∀ x : Nat, seen[x]? = some true → seen'[x]? = some true
  nodup : L.Nodup
  edge : ∀ x ∈ L, ∀ s ∈ succ g x, seen'[s]? = some true
  back : ∀ x ∈ L, ∀ s ∈ succ g x, s ∈ L → [s, x].Sublist L ∨ Desc g L s x

theorem sub_two {a b : Nat} {l m : List Nat} (ha : a ∈ l) (hb : b ∈ m) : [a, b].Sublist (l ++ m) :=
  (List.singleton_sublist.2 ha).append (List.singleton_sublist.2 hb)

theorem Found.nil (g : List (List Nat)) (seen : List Bool) : Found g seen seen [] :=
  ⟨rfl, fun x => ⟨fun h => by simp at h, fun h => by rw [h.2] at h; simp at h⟩, fun _ h => h, List.nodup_nil, by simp, by simp⟩
theorem Found.append {g : List (List Nat)} {s0 s1 s2 : List Bool} {L M : List Nat} (h : Found g s0 s1 L) (k : Found g s1 s2 M) : Found g s0 s2 (L ++ M) := by
  refine ⟨k.len.trans h.len, fun x => ?_, fun x hx => k.keep x (h.keep x hx), ?_, ?_, ?_⟩
  · rw [List.mem_append, h.mem, k.mem]
    constructor
    · rintro (⟨h1, h2⟩ | ⟨h1, h2⟩)
      · exact ⟨k.keep x h1, h2⟩
      · refine ⟨h1, ?_⟩
        have hlt : x < s1.length := (List.getElem?_eq_some_iff.1 h2).1
        rw [h.len] at hlt
        cases e : s0[x]'hlt with
        | false => rw [List.getElem?_eq_getElem hlt, e]
        | true =>
          have := h.keep x (by rw [List.getElem?_eq_getElem hlt, e])
          rw [h2] at this; simp at this
    · rintro ⟨h1, h2⟩
      have hlt : x < s0.length := (List.getElem?_eq_some_iff.1 h2).1
      rw [← h.len] at hlt
      cases e : s1[x]'hlt with
      | false => exact .inr ⟨h1, by rw [List.getElem?_eq_getElem hlt, e]⟩
      | true => exact .inl ⟨by rw [List.getElem?_eq_getElem hlt, e], h2⟩
  · refine List.nodup_append.2 ⟨h.nodup, k.nodup, fun a ha b hb e => ?_⟩
    subst e
    have h1 := ((h.mem a).1 ha).1
    have h2 := ((k.mem a).1 hb).2
    rw [h1] at h2; simp at h2
  · intro x hx s hs
    rcases List.mem_append.1 hx with hx | hx
    · exact k.keep s (h.edge x hx s hs)
    · exact k.edge x hx s hs
  · intro x hx s hs hsm
    rcases List.mem_append.1 hx with hx | hx <;> rcases List.mem_append.1 hsm with hsm | hsm
    · rcases h.back x hx s hs hsm with h1 | h1
      · exact .inl (h1.trans (List.sublist_append_left _ _))
      · exact .inr (h1.mono (List.sublist_append_left _ _))
    · have h1 := h.edge x hx s hs
      have h2 := ((k.mem s).1 hsm).2
      rw [h1] at h2; simp at h2
    · exact .inl (sub_two hsm hx)
    · rcases k.back x hx s hs hsm with h1 | h1
      · exact .inl (h1.trans (List.sublist_append_right _ _))
      · exact .inr (h1.mono (List.sublist_append_right _ _))

def whites (seen : List Bool) : Nat := seen.count false
theorem whites_set : ∀ {seen : List Bool} {n : Nat}, seen[n]? = some false → whites (seen.set n true) + 1 = whites seen
  | [], n, h => by simp at h
  | b :: l, 0, h => by simp at h; subst h; simp [whites]
  | b :: l, n + 1, h => by
    have := whites_set (seen := l) (n := n) (by simpa using h)
    unfold whites at this ⊢
    cases b <;> simp at this ⊢ <;> omega
theorem whites_le : ∀ {l l' : List Bool}, l'.length = l.length → (∀ x : Nat, l[x]? = some true → l'[x]? = some true) → whites l' ≤ whites l
  | [], [], _, _ => Nat.le_refl _
  | [], b :: l', h, _ => by simp at h
  | a :: l, [], h, _ => by simp at h
  | a :: l, b :: l', h, hk => by
    have := whites_le (l := l) (l' := l') (by simpa using h) (fun x hx => by simpa using hk (x + 1) (by simpa using hx))
    have h0 := hk 0
    unfold whites at this ⊢
    cases a <;> cases b <;> simp at this h0 ⊢ <;> omega

theorem dgetD {seen : List Bool} {s : Nat} (h : s < seen.length) : (seen.getD s true = true ∧ seen[s]? = some true) ∨ (seen.getD s true = false ∧ seen[s]? = some false) := by
  rw [List.getD_eq_getElem?_getD, List.getElem?_eq_getElem h]
  cases seen[s] <;> simp

theorem succ_lt {g : List (List Nat)} (hv : ValidG g) {u s : Nat} (h : s ∈ succ g u) : s < g.length := by
  unfold succ at h
  rw [List.getD_eq_getElem?_getD] at h
  cases e : g[u]? with
  | none => rw [e] at h; simp at h
  | some l => rw [e] at h; exact hv.2 l (List.mem_of_getElem? e) s h

def visitS (g : List (List Nat)) (f : Nat) (st : List Bool × List Nat) (s : Nat) : List Bool × List Nat := if st.1.getD s true then st else visit g f st s
theorem visit_unf (g : List (List Nat)) (f : Nat) (st : List Bool × List Nat) (n : Nat) :
    visit g (f + 1) st n = (((succ g n).foldl (visitS g f) (st.1.set n true, st.2)).1, ((succ g n).foldl (visitS g f) (st.1.set n true, st.2)).2 ++ [n]) := rfl

/-- What a search of a node leaves. -/
def VisitOk (g : List (List Nat)) (st : List Bool × List Nat) (n : Nat) (r : List Bool × List Nat) : Prop :=
  ∃ L, r.2 = st.2 ++ (L ++ [n]) ∧ Found g st.1 r.1 (L ++ [n]) ∧ (∀ x ∈ L ++ [n], Desc g (L ++ [n]) n x) ∧
    ∀ (stk : List (Nat × Nat)) (k : Nat) (F : List Nat), DRun g k r.1 stk r.2 F → ∃ k', DRun g k' (st.1.set n true) (stk ++ [(n, 0)]) st.2 F
def FoldOk (g : List (List Nat)) (n : Nat) (j : Nat) (l : List Nat) (st r : List Bool × List Nat) : Prop :=
  ∃ L, r.2 = st.2 ++ L ∧ Found g st.1 r.1 L ∧ (∀ x ∈ L, ∃ s ∈ l, s ∈ L ∧ Desc g L s x) ∧ (∀ s ∈ l, r.1[s]? = some true) ∧
    ∀ (stk : List (Nat × Nat)) (k : Nat) (F : List Nat), DRun g k r.1 (stk ++ [(n, j + l.length)]) r.2 F → ∃ k', DRun g k' st.1 (stk ++ [(n, j)]) st.2 F

theorem fold_ok {g : List (List Nat)} (hv : ValidG g) (f : Nat) (ih : ∀ (st : List Bool × List Nat) (n : Nat), st.1.length = g.length → st.1[n]? = some false → whites st.1 ≤ f → VisitOk g st n (visit g f st n)) (n : Nat) :
    ∀ (l : List Nat) (j : Nat) (st : List Bool × List Nat), (∀ (k s : Nat), l[k]? = some s → (succ g n)[j + k]? = some s) → st.1.length = g.length → whites st.1 ≤ f → FoldOk g n j l st (l.foldl (visitS g f) st)
  | [], j, st, _, _, _ => ⟨[], by simp, Found.nil _ _, by simp, by simp, fun stk k F h => ⟨k, by simpa using h⟩⟩
  | s :: l, j, st, hl, hlen, hw => by
    have hs : (succ g n)[j]? = some s := by simpa using hl 0 s rfl
    have hslt : s < st.1.length := by rw [hlen]; exact succ_lt hv (List.mem_of_getElem? hs)
    have hl' : ∀ (k t : Nat), l[k]? = some t → (succ g n)[j + 1 + k]? = some t := fun k t hk => by
      have := hl (k + 1) t (by simpa using hk)
      rwa [show j + (k + 1) = j + 1 + k by omega] at this
    rw [List.foldl_cons]
    rcases dgetD hslt with ⟨hd, he⟩ | ⟨hd, he⟩
    · have e : visitS g f st s = st := by unfold visitS; rw [if_pos hd]
      rw [e]
      obtain ⟨L, h1, h2, h3, h4, h5⟩ := fold_ok hv f ih n l (j + 1) st hl' hlen hw
      refine ⟨L, h1, h2, fun x hx => ?_, fun t ht => ?_, fun stk k F hD => ?_⟩
      · obtain ⟨t, a, b, c⟩ := h3 x hx; exact ⟨t, by simp [a], b, c⟩
      · rcases List.mem_cons.1 ht with rfl | ht
        · exact h2.keep t he
        · exact h4 t ht
      · obtain ⟨k', hk'⟩ := h5 stk k F (by rw [List.length_cons, show j + (l.length + 1) = j + 1 + l.length by omega] at hD; exact hD)
        exact ⟨k' + 1, stk, n, j, rfl, .inr (.inl ⟨s, hs, he, hk'⟩)⟩
    · have e : visitS g f st s = visit g f st s := by unfold visitS; rw [if_neg (by rw [hd]; simp)]
      rw [e]
      obtain ⟨L1, a1, a2, a3, a4⟩ := ih st s hlen he hw
      obtain ⟨L2, h1, h2, h3, h4, h5⟩ := fold_ok hv f ih n l (j + 1) (visit g f st s) hl' (a2.len.trans hlen) (Nat.le_trans (whites_le a2.len a2.keep) hw)
      refine ⟨(L1 ++ [s]) ++ L2, by rw [h1, a1]; simp, a2.append h2, fun x hx => ?_, fun t ht => ?_, fun stk k F hD => ?_⟩
      · rcases List.mem_append.1 hx with hx | hx
        · exact ⟨s, by simp, by simp, (a3 x hx).mono (List.sublist_append_left _ _)⟩
        · obtain ⟨t, b1, b2, b3⟩ := h3 x hx
          exact ⟨t, by simp [b1], List.mem_append.2 (.inr b2), b3.mono (List.sublist_append_right _ _)⟩
      · rcases List.mem_cons.1 ht with rfl | ht
        · exact h2.keep t ((a2.mem t).1 (by simp)).1
        · exact h4 t ht
      · obtain ⟨k', hk'⟩ := h5 stk k F (by rw [List.length_cons, show j + (l.length + 1) = j + 1 + l.length by omega] at hD; exact hD)
        obtain ⟨k2, hk2⟩ := a4 (stk ++ [(n, j + 1)]) k' F hk'
        exact ⟨k2 + 1, stk, n, j, rfl, .inr (.inr ⟨s, hs, he, hk2⟩)⟩

theorem visit_ok {g : List (List Nat)} (hv : ValidG g) : ∀ (f : Nat) (st : List Bool × List Nat) (n : Nat), st.1.length = g.length → st.1[n]? = some false → whites st.1 ≤ f → VisitOk g st n (visit g f st n)
  | 0, st, n, _, h, hw => by have := whites_set h; omega
  | f + 1, st, n, hlen, h, hw => by
    have hws := whites_set h
    have hnl := (List.getElem?_eq_some_iff.1 h).1
    have hset : (st.1.set n true)[n]? = some true := by simp [hnl]
    have hset' : ∀ x : Nat, x ≠ n → (st.1.set n true)[x]? = st.1[x]? := fun x hx => List.getElem?_set_ne (Ne.symm hx)
    obtain ⟨L, h1, h2, h3, h4, h5⟩ := fold_ok hv f (visit_ok hv f) n (succ g n) 0 (st.1.set n true, st.2) (fun k s hk => by simpa using hk) (by simpa using hlen) (by dsimp only; omega)
    rw [visit_unf]
    generalize (succ g n).foldl (visitS g f) (st.1.set n true, st.2) = r at *
    dsimp only at h1 h2 h5 ⊢
    have hnL : n ∉ L := fun hm => by have := ((h2.mem n).1 hm).2; rw [hset] at this; simp at this
    refine ⟨L, by rw [h1]; simp, ⟨?_, ?_, ?_, ?_, ?_, ?_⟩, ?_, ?_⟩
    · have := h2.len; simpa using this
    · intro x
      rw [List.mem_append, List.mem_singleton, h2.mem]
      by_cases hx : x = n
      · subst hx; exact ⟨fun _ => ⟨h2.keep x hset, h⟩, fun _ => .inr rfl⟩
      · rw [hset' x hx]; simp [hx]
    · intro x hx
      refine h2.keep x ?_
      by_cases e : x = n
      · subst e; exact hset
      · rw [hset' x e]; exact hx
    · exact List.nodup_append.2 ⟨h2.nodup, by simp, fun a ha b hb e => by simp at hb; subst hb; subst e; exact hnL ha⟩
    · intro x hx s hs
      rcases List.mem_append.1 hx with hx | hx
      · exact h2.edge x hx s hs
      · simp at hx; subst hx; exact h4 s hs
    · intro x hx s hs hsm
      rcases List.mem_append.1 hx with hx1 | hx1 <;> rcases List.mem_append.1 hsm with hsm | hsm
      · rcases h2.back x hx1 s hs hsm with h1 | h1
        · exact .inl (h1.trans (List.sublist_append_left _ _))
        · exact .inr (h1.mono (List.sublist_append_left _ _))
      · simp at hsm; subst hsm
        obtain ⟨t, b1, b2, b3⟩ := h3 x hx1
        exact .inr (.step b1 (sub_two b2 (by simp)) (b3.mono (List.sublist_append_left _ _)))
      · exact .inl (sub_two hsm hx1)
      · simp at hx1 hsm; subst hx1; subst hsm; exact .inr (.refl _)
    · intro x hx
      rcases List.mem_append.1 hx with hx | hx
      · obtain ⟨t, b1, b2, b3⟩ := h3 x hx
        exact .step b1 (sub_two b2 (by simp)) (b3.mono (List.sublist_append_left _ _))
      · simp at hx; subst hx; exact .refl _
    · intro stk k F hD
      exact h5 stk (k + 1) F ⟨stk, n, 0 + (succ g n).length, rfl, .inl ⟨by simp, hD⟩⟩

/-- The finished nodes of the whole search. -/
theorem post_ok {g : List (List Nat)} (hv : ValidG g) : ∃ L, postL g = L ++ [0] ∧ (postL g).Nodup ∧ (∀ x ∈ postL g, x < g.length ∧ Desc g (postL g) 0 x ∧ ∀ s ∈ succ g x, s ∈ postL g ∧ ([s, x].Sublist (postL g) ∨ Desc g (postL g) s x)) ∧
    ∃ k, DRun g k ((List.replicate g.length false).set 0 true) [(0, 0)] [] (postL g) := by
  have hw : whites (List.replicate g.length false) ≤ g.length := by simp [whites]
  obtain ⟨L, h1, h2, h3, h4⟩ := visit_ok hv g.length (List.replicate g.length false, []) 0 (by simp) (by simp [hv.1]) hw
  have e : postL g = L ++ [0] := by unfold postL; rw [h1]; simp
  rw [e]
  refine ⟨L, rfl, h2.nodup, fun x hx => ⟨?_, h3 x hx, fun s hs => ?_⟩, ?_⟩
  · have := ((h2.mem x).1 hx).2
    have := (List.getElem?_eq_some_iff.1 this).1
    simpa using this
  · have hsm : s ∈ L ++ [0] := (h2.mem s).2 ⟨h2.edge x hx s hs, by have := succ_lt hv hs; simp [this]⟩
    exact ⟨hsm, h2.back x hx s hs hsm⟩
  · obtain ⟨k', hk'⟩ := h4 [] 0 (L ++ [0]) ⟨rfl, by rw [h1]; simp⟩
    exact ⟨k', by simpa using hk'⟩
end Go.Proofs.Ytpfinkcnklkclaa
