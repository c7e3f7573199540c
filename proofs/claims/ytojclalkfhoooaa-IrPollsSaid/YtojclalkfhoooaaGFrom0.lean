/-
  The walk of the reference's recursive search. What the reference's From computes: the work list, round for round; and that it comes to its end.
-/
import Derived.Test.YtojclalkfhoooaaOrd2
set_option linter.unusedVariables false
set_option linter.unusedSimpArgs false
set_option maxRecDepth 8000
namespace Go.Proofs.Ytojclalkfhoooaa
open Go.RowKit

/-- One successor in the recursive search with fuel f. -/
def visit1 (g : List (List Nat)) (f : Nat) (st : List Bool × List Nat) (s : Nat) : List Bool × List Nat := if st.1.getD s true then st else visit g f st s
theorem visit_succ (g : List (List Nat)) (f : Nat) (st : List Bool × List Nat) (n : Nat) :
    visit g (f + 1) st n = (((succ g n).foldl (visit1 g f) (st.1.set n true, st.2)).1, ((succ g n).foldl (visit1 g f) (st.1.set n true, st.2)).2 ++ [n]) := rfl
theorem unseen_set : ∀ {seen : List Bool} {n : Nat}, seen[n]? = some false → unseen (seen.set n true) + 1 = unseen seen
  | [], n, h => by simp at h
  | b :: l, 0, h => by simp at h; subst h; simp [unseen]
  | b :: l, n + 1, h => by
    have := unseen_set (seen := l) (n := n) (by simpa using h)
    unfold unseen at this ⊢
    cases b <;> simp at this ⊢ <;> omega

/-- What lies in memory during the search. -/
structure SMem (w0 w : World) (B0 bs : Nat) (seen : List Bool) (pv : Value) (post : List Nat) : Prop where
  hs : w.heap[bs]? = some (.cells (seen.map encBool).toArray 4 (0, 0))
  hp : w.ownsRow B0 3 1 pv post.length (post.map encNat)
  hb : Below B0 w0 w
  lt : B0 ≤ bs

/-- The lists after the search of a node. -/
theorem visit_facts (g : List (List Nat)) : ∀ (f : Nat) (st : List Bool × List Nat) (n : Nat), st.1[n]? = some false → (visit g f st n).1.length = st.1.length ∧ unseen (visit g f st n).1 ≤ unseen st.1 ∧ (visit g f st n).2.length + unseen (visit g f st n).1 ≤ st.2.length + unseen st.1
  | 0, st, n, _ => ⟨rfl, Nat.le_refl _, Nat.le_refl _⟩
  | f + 1, st, n, h => by
    have ih := visit_facts g f
    have hfold : ∀ (l : List Nat) (s : List Bool × List Nat), (l.foldl (visit1 g f) s).1.length = s.1.length ∧ unseen (l.foldl (visit1 g f) s).1 ≤ unseen s.1 ∧ (l.foldl (visit1 g f) s).2.length + unseen (l.foldl (visit1 g f) s).1 ≤ s.2.length + unseen s.1 := by
      intro l
      induction l with
      | nil => intro s; exact ⟨rfl, Nat.le_refl _, Nat.le_refl _⟩
      | cons a l ihl =>
        intro s
        have h1 : (visit1 g f s a).1.length = s.1.length ∧ unseen (visit1 g f s a).1 ≤ unseen s.1 ∧ (visit1 g f s a).2.length + unseen (visit1 g f s a).1 ≤ s.2.length + unseen s.1 := by
          unfold visit1
          by_cases hs : s.1.getD a true = true
          · rw [if_pos hs]; exact ⟨rfl, Nat.le_refl _, Nat.le_refl _⟩
          · rw [if_neg hs]
            refine ih s a ?_
            rw [List.getD_eq_getElem?_getD] at hs
            cases e : s.1[a]? with
            | none => rw [e] at hs; simp at hs
            | some b => rw [e] at hs; simp at hs; rw [hs]
        have h2 := ihl (visit1 g f s a)
        rw [List.foldl_cons]
        omega
    have h1 := hfold (succ g n) (st.1.set n true, st.2)
    have h2 := unseen_set h
    rw [visit_succ]
    simp only [List.length_set, List.length_append, List.length_singleton] at h1 ⊢
    omega

theorem fold_facts (g : List (List Nat)) (f : Nat) : ∀ (l : List Nat) (s : List Bool × List Nat), (l.foldl (visit1 g f) s).1.length = s.1.length ∧ unseen (l.foldl (visit1 g f) s).1 ≤ unseen s.1 ∧ (l.foldl (visit1 g f) s).2.length + unseen (l.foldl (visit1 g f) s).1 ≤ s.2.length + unseen s.1
  | [], s => ⟨rfl, Nat.le_refl _, Nat.le_refl _⟩
  | a :: l, s => by
    have h1 : (visit1 g f s a).1.length = s.1.length ∧ unseen (visit1 g f s a).1 ≤ unseen s.1 ∧ (visit1 g f s a).2.length + unseen (visit1 g f s a).1 ≤ s.2.length + unseen s.1 := by
      unfold visit1
      by_cases hs : s.1.getD a true = true
      · rw [if_pos hs]; exact ⟨rfl, Nat.le_refl _, Nat.le_refl _⟩
      · rw [if_neg hs]
        refine visit_facts g f s a ?_
        rw [List.getD_eq_getElem?_getD] at hs
        cases e : s.1[a]? with
        | none => rw [e] at hs; simp at hs
        | some b => rw [e] at hs; simp at hs; rw [hs]
    have h2 := fold_facts g f l (visit1 g f s a)
    rw [List.foldl_cons]
    omega

theorem SMem.box {w0 w : World} {B0 bs : Nat} {seen : List Bool} {pv : Value} {post : List Nat} (h : SMem w0 w B0 bs seen pv post) (o : Obj) : SMem w0 (w.alloc o) B0 bs seen pv post := by
  obtain ⟨hs, hp, hb, lt⟩ := h
  exact ⟨alloc_blk hs, hp.alloc _, hb.alloc (by have := lt_of_block hs; omega) _, lt⟩
theorem SMem.mark {w0 w : World} {B0 bs n : Nat} {seen : List Bool} {pv : Value} {post : List Nat} (h : SMem w0 w B0 bs seen pv post) : SMem w0 (w.setCell ⟨bs, n, none⟩ (.bool true)) B0 bs (seen.set n true) pv post := by
  obtain ⟨hs, hp, hb, lt⟩ := h
  refine ⟨?_, ownsRow_setCell_other hp (ownsRow_block_ne (b := bs) hp hs (.inr (by decide))) _, hb.setCell (show B0 ≤ bs from lt) _, lt⟩
  rw [heap_setCell_self hs]
  simp [encBool, List.map_set]
theorem SMem.drewN {w0 w : World} {B0 bs : Nat} {seen : List Bool} {pv : Value} {post : List Nat} (h : SMem w0 w B0 bs seen pv post) (n : Nat) : SMem w0 (w.drewN n) B0 bs seen pv post := ⟨h.hs, h.hp, below_drewN h.hb, h.lt⟩

/-- What a search leaves alone. -/
structure ST (w w' : World) (bs : Nat) (pv pv' : Value) : Prop where
  size : w.heap.size ≤ w'.heap.size
  blk : ∀ k, k < w.heap.size → k ≠ bs → pv.ownBlock ≠ some k → w'.heap[k]? = w.heap[k]?
  own : ∀ k, pv'.ownBlock = some k → pv.ownBlock = some k ∨ w.heap.size ≤ k
theorem ST.trans {w w1 w2 : World} {bs : Nat} {a b c : Value} (h : ST w w1 bs a b) (k : ST w1 w2 bs b c) : ST w w2 bs a c :=
  ⟨Nat.le_trans h.size k.size, fun i h1 h2 h3 => (k.blk i (Nat.lt_of_lt_of_le h1 h.size) h2 (fun e => by rcases h.own i e with e | e; exact h3 e; omega)).trans (h.blk i h1 h2 h3),
    fun i e => by rcases k.own i e with e | e; exact h.own i e; right; have := h.size; omega⟩
theorem ST.box (w : World) (o : Obj) (bs : Nat) (v : Value) : ST w (w.alloc o) bs v v := ⟨by simp, fun k hk _ _ => Below.heap_alloc _ _ _ hk, fun _ e => .inl e⟩
theorem ST.mark (w : World) (bs n : Nat) (u v : Value) : ST w (w.setCell ⟨bs, n, none⟩ u) bs v v := ⟨by simp, fun k hk h _ => Below.heap_setCell _ _ _ _ h, fun _ e => .inl e⟩
theorem ST.drewN (w : World) (n bs : Nat) (v : Value) : ST w (w.drewN n) bs v v := ⟨Nat.le_refl _, fun _ _ _ _ => rfl, fun _ e => .inl e⟩

end Go.Proofs.Ytojclalkfhoooaa
set_option linter.unusedVariables false
set_option linter.unusedSimpArgs false
set_option maxRecDepth 8000
namespace Go.Proofs.Ytojclalkfhoooaa


theorem push1_facts (out : Int) (st : List Bool × List Nat) (s : Nat) : (push1 out st s).1.length = st.1.length ∧ (push1 out st s).2.length + unseen (push1 out st s).1 = st.2.length + unseen st.1 := by
  unfold push1
  by_cases h : (s : Int) ≠ out ∧ st.1[s]? = some false
  · rw [if_pos h]
    have := unseen_set h.2
    refine ⟨by simp, ?_⟩
    simp only [List.length_append, List.length_singleton]
    omega
  · rw [if_neg h]; exact ⟨rfl, rfl⟩
theorem pushes_facts (out : Int) : ∀ (l : List Nat) (st : List Bool × List Nat), (l.foldl (push1 out) st).1.length = st.1.length ∧ (l.foldl (push1 out) st).2.length + unseen (l.foldl (push1 out) st).1 = st.2.length + unseen st.1
  | [], _ => ⟨rfl, rfl⟩
  | s :: l, st => by
    have h1 := push1_facts out st s
    have h2 := pushes_facts out l (push1 out st s)
    rw [List.foldl_cons]
    omega
theorem FromR.ends (g : List (List Nat)) (out : Int) : ∀ (m : Nat) (seen : List Bool) (work : List Nat), work.length + unseen seen ≤ m → ∃ k F, FromR g out k seen work F
  | 0, seen, work, h => ⟨0, seen, List.eq_nil_of_length_eq_zero (by omega), rfl⟩
  | m + 1, seen, work, h => by
    rcases List.eq_nil_or_concat work with rfl | ⟨st, n, rfl⟩
    · exact ⟨0, seen, rfl, rfl⟩
    · have h2 := pushes_facts out (succ g n) (seen, st)
      simp only [List.length_append, List.length_singleton, List.concat_eq_append] at h h2
      obtain ⟨k, F, hF⟩ := FromR.ends g out m ((succ g n).foldl (push1 out) (seen, st)).1 ((succ g n).foldl (push1 out) (seen, st)).2 (by omega)
      exact ⟨k + 1, F, st, n, by simp, hF⟩
end Go.Proofs.Ytojclalkfhoooaa
