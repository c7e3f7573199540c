/-
  The plain mathematics: graphs, orders, dominators, loops, reducibility, and how they change when a graph does. No program in sight.
-/

set_option linter.unusedVariables false
set_option linter.unusedSimpArgs false

/-
  Plain definitions: what the functions of packages flow and vellumref06 compute, as functions on lists. No program in sight.
-/
namespace Go.Proofs.Ytojclalkfhoooaa

/-- The successors of a node. -/
def succ (g : List (List Nat)) (u : Nat) : List Nat := g.getD u []

/-- All successors are nodes (the graph as it lies in memory, of whole numbers). -/
def validI (g : List (List Int)) : Bool := g.all fun l => l.all fun s => decide (0 ≤ s) && decide (s < (g.length : Int))
def ValidG (g : List (List Nat)) : Prop := 0 < g.length ∧ ∀ l ∈ g, ∀ s ∈ l, s < g.length

/-- A path of k steps from a to b through nodes of which P holds. -/
def PathN (g : List (List Nat)) (P : Nat → Prop) : Nat → Nat → Nat → Prop
  | 0, a, b => a = b ∧ P a
  | k + 1, a, c => ∃ b, PathN g P k a b ∧ c ∈ succ g b ∧ P c
def Path (g : List (List Nat)) (P : Nat → Prop) (a b : Nat) : Prop := ∃ k, PathN g P k a b

/-- The depth-first search, with its explicit stack: after k rounds the list of finished nodes is F. -/
def DRun (g : List (List Nat)) : Nat → List Bool → List (Nat × Nat) → List Nat → List Nat → Prop
  | 0, _, stk, post, F => stk = [] ∧ post = F
  | k + 1, seen, stk, post, F => ∃ st u j, stk = st ++ [(u, j)] ∧ ((j = (succ g u).length ∧ DRun g k seen st (post ++ [u]) F) ∨
      (∃ s, (succ g u)[j]? = some s ∧ seen[s]? = some true ∧ DRun g k seen (st ++ [(u, j + 1)]) post F) ∨
      (∃ s, (succ g u)[j]? = some s ∧ seen[s]? = some false ∧ DRun g k (seen.set s true) (st ++ [(u, j + 1)] ++ [(s, 0)]) post F))

/-- The recursive search of a node, with fuel. -/
def visit (g : List (List Nat)) : Nat → List Bool × List Nat → Nat → List Bool × List Nat
  | 0, st, _ => st
  | f + 1, st, n =>
    let r := (succ g n).foldl (fun st s => if st.1.getD s true then st else visit g f st s) (st.1.set n true, st.2)
    (r.1, r.2 ++ [n])
def postL (g : List (List Nat)) : List Nat := (visit g g.length (List.replicate g.length false, []) 0).2
def orderL (g : List (List Nat)) : List Nat := (postL g).reverse

end Go.Proofs.Ytojclalkfhoooaa

/-
  Plain definitions: the relations that the walks ask for, round for round. No program in sight.
-/
namespace Go.Proofs.Ytojclalkfhoooaa

/-- ord is the order of g: what the search leaves, turned round. -/
def IsOrder (g : List (List Nat)) (ord : List Nat) : Prop := ∃ k, DRun g k ((List.replicate g.length false).set 0 true) [(0, 0)] [] ord.reverse
/-- Positions in the order after k rounds; predecessors after the edges of some nodes. -/
def atF (ord : List Nat) : Nat → Int → Int
  | 0, _ => 0
  | k + 1, y => if y = ((ord.getD k 0 : Nat) : Int) then (k : Int) else atF ord k y
def addEdge (n : Nat) (P : List (List Nat)) (s : Nat) : List (List Nat) := P.set s (P.getD s [] ++ [n])
def addEdges (g : List (List Nat)) (P : List (List Nat)) (n : Nat) : List (List Nat) := (succ g n).foldl (addEdge n) P
def predsL (g : List (List Nat)) (ord : List Nat) : List (List Nat) := ord.foldl (addEdges g) (List.replicate g.length [])
/-- 'for at[a] > t { a = idom[a] }', k rounds. -/
def UpN (idom : List Int) (f : Int → Int) (t : Int) : Nat → Nat → Nat → Prop
  | 0, a, a' => ¬ t < f a ∧ a' = a
  | k + 1, a, a' => t < f a ∧ ∃ a1 : Nat, a1 < idom.length ∧ idom[a]? = some (a1 : Int) ∧ UpN idom f t k a1 a'
/-- The walk of both nodes up, k rounds. -/
def MeetN (idom : List Int) (f : Int → Int) : Nat → Nat → Nat → Nat → Prop
  | 0, a, b, r => a = b ∧ r = a
  | k + 1, a, b, r => a ≠ b ∧ ∃ j a', UpN idom f (f b) j a a' ∧ ∃ j' b', UpN idom f (f a') j' b b' ∧ MeetN idom f k a' b' r
/-- What one predecessor does to the candidate. -/
def PickR (idom : List Int) (f : Int → Int) (p : Nat) (d d1 : Int) : Prop :=
  ∃ x, idom[p]? = some x ∧ ((x < 0 ∧ d1 = d) ∨ (¬ x < 0 ∧ d < 0 ∧ d1 = p) ∨ (¬ x < 0 ∧ ∃ dn : Nat, d = dn ∧ dn < idom.length ∧ ∃ k r, MeetN idom f k p dn r ∧ d1 = (r : Int)))
/-- All predecessors. -/
def PredsR (idom : List Int) (f : Int → Int) : List Nat → Int → Int → Prop
  | [], d, d' => d' = d
  | p :: ps, d, d' => ∃ d1, PickR idom f p d d1 ∧ PredsR idom f ps d1 d'
/-- A candidate: none yet, or a node that has been reached. -/
def OkD (idom : List Int) (d : Int) : Prop := d = -1 ∨ ∃ dn : Nat, d = (dn : Int) ∧ dn < idom.length ∧ ∃ x, idom[dn]? = some x ∧ ¬ x < 0
/-- Every predecessor can be met with every candidate. -/
def TotR (idom : List Int) (f : Int → Int) (pr : List Nat) : Prop := ∀ p ∈ pr, p < idom.length ∧ ∀ d, OkD idom d → ∃ d1, OkD idom d1 ∧ PickR idom f p d d1
/-- One pass over the nodes. -/
def PassR (preds : List (List Nat)) (f : Int → Int) : List Nat → List Int → Bool → List Int → Bool → Prop
  | [], idom, ch, idom', ch' => idom' = idom ∧ ch' = ch
  | n :: ns, idom, ch, idom', ch' => ∃ pr d old, preds[n]? = some pr ∧ TotR idom f pr ∧ PredsR idom f pr (-1) d ∧ idom[n]? = some old ∧ ((old = d ∧ PassR preds f ns idom ch idom' ch') ∨ (old ≠ d ∧ PassR preds f ns (idom.set n d) true idom' ch'))
/-- Passes until nothing changes. -/
def DomR (preds : List (List Nat)) (f : Int → Int) (ns : List Nat) : Nat → List Int → List Int → Prop
  | 0, _, _ => False
  | k + 1, idom, idom' => ∃ i1 ch, PassR preds f ns idom false i1 ch ∧ ((ch = false ∧ idom' = i1) ∨ (ch = true ∧ DomR preds f ns k i1 idom'))
/-- The view of a graph whose order is 0 :: ns leads to the immediate dominators idom (that of the entry: the entry). -/
def DomOf (g : List (List Nat)) (ns : List Nat) (idom : List Int) : Prop := ∃ k, DomR (predsL g (0 :: ns)) (atF (0 :: ns) (ns.length + 1)) ns k ((0 : Int) :: List.replicate (g.length - 1) (-1)) idom
/-- What Reducible asks of an edge. -/
def EdgeR (idom : List Int) (f : Int → Int) (u s : Nat) (b : Bool) : Prop := (¬ f s ≤ f u ∧ b = true) ∨ (f s ≤ f u ∧ ∃ k r, UpN idom f (f s) k u r ∧ b = decide (r = s))
/-- What add does to the set and the work list. -/
def addF (st : (Int → Bool) × List Nat) (u : Nat) : (Int → Bool) × List Nat := if st.1 (u : Int) then st else (fun y => if y = (u : Int) then true else st.1 y, st.2 ++ [u])
/-- One predecessor of a head. -/
def step1 (dq : Nat → Nat → Bool) (h : Nat) (st : Bool × (Int → Bool) × List Nat) (u : Nat) : Bool × (Int → Bool) × List Nat := if dq h u then (true, addF st.2 u) else st
/-- The work list, round for round. -/
def WorkR (preds : List (List Nat)) : Nat → (Int → Bool) → List Nat → (Int → Bool) → Prop
  | 0, f, work, F => work = [] ∧ F = f
  | k + 1, f, work, F => ∃ st n pr, work = st ++ [n] ∧ preds[n]? = some pr ∧ WorkR preds k (pr.foldl addF (f, st)).1 (pr.foldl addF (f, st)).2 F
def head0 (h : Nat) : Bool × (Int → Bool) × List Nat := (false, fun y => if y = (h : Int) then true else false, [])
def headSt (dq : Nat → Nat → Bool) (preds : List (List Nat)) (h : Nat) : Bool × (Int → Bool) × List Nat := (preds.getD h []).foldl (step1 dq h) (head0 h)
def bodyOf (F : Int → Bool) (n : Nat) : List Nat := (List.range n).filter fun m => F (m : Int)
def loopsUpto (dq : Nat → Nat → Bool) (preds : List (List Nat)) (F : Nat → Int → Bool) (n : Nat) (i : Nat) : List (Nat × List Nat) :=
  (List.range i).filterMap fun h => if (headSt dq preds h).1 then some (h, bodyOf (F h) n) else none
def unseen (seen : List Bool) : Nat := (seen.filter (fun b => !b)).length
/-- One successor. -/
def push1 (out : Int) (st : List Bool × List Nat) (s : Nat) : List Bool × List Nat := if (s : Int) ≠ out ∧ st.1[s]? = some false then (st.1.set s true, st.2 ++ [s]) else st
/-- The work list, round for round. -/
def FromR (g : List (List Nat)) (out : Int) : Nat → List Bool → List Nat → List Bool → Prop
  | 0, seen, work, F => work = [] ∧ F = seen
  | k + 1, seen, work, F => ∃ st n, work = st ++ [n] ∧ FromR g out k ((succ g n).foldl (push1 out) (seen, st)).1 ((succ g n).foldl (push1 out) (seen, st)).2 F
/-- What From computes: none if from is out. -/
def FromOf (g : List (List Nat)) (fr : Nat) (out : Int) (F : List Bool) : Prop :=
  ((fr : Int) = out ∧ F = List.replicate g.length false) ∨ ((fr : Int) ≠ out ∧ ∃ k, FromR g out k ((List.replicate g.length false).set fr true) [fr] F)

end Go.Proofs.Ytojclalkfhoooaa

/-
  Plain mathematics of the depth-first search: what the recursive search leaves; the run with the explicit stack exists.
-/
namespace Go.Proofs.Ytojclalkfhoooaa

/-- A path from a to b by edges to nodes that are finished earlier. -/
inductive Desc (g : List (List Nat)) (L : List Nat) : Nat → Nat → Prop
  | refl (a : Nat) : Desc g L a a
  | step {a c b : Nat} : c ∈ succ g a → [c, a].Sublist L → Desc g L c b → Desc g L a b
theorem Desc.mono {g : List (List Nat)} {L L' : List Nat} (hL : L.Sublist L') {a b : Nat} (h : Desc g L a b) : Desc g L' a b := by
  induction h with
  | refl a => exact .refl a
  | step h1 h2 _ ih => exact .step h1 (h2.trans hL) ih
theorem Desc.last {g : List (List Nat)} {L : List Nat} {a b : Nat} (h : Desc g L a b) : a = b ∨ ∃ p, Desc g L a p ∧ b ∈ succ g p ∧ [b, p].Sublist L := by
  induction h with
  | refl a => exact .inl rfl
  | @step a c b h1 h2 h3 ih =>
    rcases ih with rfl | ⟨p, h4, h5, h6⟩
    · exact .inr ⟨a, .refl a, h1, h2⟩
    · exact .inr ⟨p, .step h1 h2 h4, h5, h6⟩

/-- What a search leaves: L the nodes finished, in order. -/
structure Found (g : List (List Nat)) (seen seen' : List Bool) (L : List Nat) : Prop where
  len : seen'.length = seen.length
  mem : ∀ x : Nat, x ∈ L ↔ (seen'[x]? = some true ∧ seen[x]? = some false)
  keep : ∀ x : Nat, seen[x]? = some true → seen'[x]? = some true
  nodup : L.Nodup
  edge : ∀ x ∈ L, ∀ s ∈ succ g x, seen'[s]? = some true
  back : ∀ x ∈ L, ∀ s ∈ succ g x, s ∈ L → [s, x].Sublist L ∨ Desc g L s x

theorem sub_two {a b : Nat} {l m : List Nat} (ha : a ∈ l) (hb : b ∈ m) : [a, b].Sublist (l ++ m) :=
  (List.singleton_sublist.2 ha).append (List.singleton_sublist.2 hb)

theorem Found.nil (g : List (List Nat)) (seen : List Bool) : Found g seen seen [] :=
  ⟨rfl, fun x => ⟨fun h => by simp at h, fun h => by rw [h.2] at h; simp at h⟩, fun _ h => h, List.nodup_nil, by simp, by simp⟩
theorem Found.append {g : List (List Nat)} {s0 s1 s2 : List Bool} {L M : List Nat} (h : Found g s0 s1 L) (k : Found g s1 s2 M) : Found g s0 s2 (L ++ M) := by
  refine ⟨k.len.trans h.len, fun x => ?_, fun x hx => k.keep x (h.keep x hx), ?_, ?_, ?_⟩
  · rw [List.mem_append, h.mem, k.mem]
    constructor
    · rintro (⟨h1, h2⟩ | ⟨h1, h2⟩)
      · exact ⟨k.keep x h1, h2⟩
      · refine ⟨h1, ?_⟩
        have hlt : x < s1.length := (List.getElem?_eq_some_iff.1 h2).1
        rw [h.len] at hlt
        cases e : s0[x]'hlt with
        | false => rw [List.getElem?_eq_getElem hlt, e]
        | true =>
          have := h.keep x (by rw [List.getElem?_eq_getElem hlt, e])
          rw [h2] at this; simp at this
    · rintro ⟨h1, h2⟩
      have hlt : x < s0.length := (List.getElem?_eq_some_iff.1 h2).1
      rw [← h.len] at hlt
      cases e : s1[x]'hlt with
      | false => exact .inr ⟨h1, by rw [List.getElem?_eq_getElem hlt, e]⟩
      | true => exact .inl ⟨by rw [List.getElem?_eq_getElem hlt, e], h2⟩
  · refine List.nodup_append.2 ⟨h.nodup, k.nodup, fun a ha b hb e => ?_⟩
    subst e
    have h1 := ((h.mem a).1 ha).1
    have h2 := ((k.mem a).1 hb).2
    rw [h1] at h2; simp at h2
  · intro x hx s hs
    rcases List.mem_append.1 hx with hx | hx
    · exact k.keep s (h.edge x hx s hs)
    · exact k.edge x hx s hs
  · intro x hx s hs hsm
    rcases List.mem_append.1 hx with hx | hx <;> rcases List.mem_append.1 hsm with hsm | hsm
    · rcases h.back x hx s hs hsm with h1 | h1
      · exact .inl (h1.trans (List.sublist_append_left _ _))
      · exact .inr (h1.mono (List.sublist_append_left _ _))
    · have h1 := h.edge x hx s hs
      have h2 := ((k.mem s).1 hsm).2
      rw [h1] at h2; simp at h2
    · exact .inl (sub_two hsm hx)
    · rcases k.back x hx s hs hsm with h1 | h1
      · exact .inl (h1.trans (List.sublist_append_right _ _))
      · exact .inr (h1.mono (List.sublist_append_right _ _))

def whites (seen : List Bool) : Nat := seen.count false
theorem whites_set : ∀ {seen : List Bool} {n : Nat}, seen[n]? = some false → whites (seen.set n true) + 1 = whites seen
  | [], n, h => by simp at h
  | b :: l, 0, h => by simp at h; subst h; simp [whites]
  | b :: l, n + 1, h => by
    have := whites_set (seen := l) (n := n) (by simpa using h)
    unfold whites at this ⊢
    cases b <;> simp at this ⊢ <;> omega
theorem whites_le : ∀ {l l' : List Bool}, l'.length = l.length → (∀ x : Nat, l[x]? = some true → l'[x]? = some true) → whites l' ≤ whites l
  | [], [], _, _ => Nat.le_refl _
  | [], b :: l', h, _ => by simp at h
  | a :: l, [], h, _ => by simp at h
  | a :: l, b :: l', h, hk => by
    have := whites_le (l := l) (l' := l') (by simpa using h) (fun x hx => by simpa using hk (x + 1) (by simpa using hx))
    have h0 := hk 0
    unfold whites at this ⊢
    cases a <;> cases b <;> simp at this h0 ⊢ <;> omega

theorem dgetD {seen : List Bool} {s : Nat} (h : s < seen.length) : (seen.getD s true = true ∧ seen[s]? = some true) ∨ (seen.getD s true = false ∧ seen[s]? = some false) := by
  rw [List.getD_eq_getElem?_getD, List.getElem?_eq_getElem h]
  cases seen[s] <;> simp

theorem succ_lt {g : List (List Nat)} (hv : ValidG g) {u s : Nat} (h : s ∈ succ g u) : s < g.length := by
  unfold succ at h
  rw [List.getD_eq_getElem?_getD] at h
  cases e : g[u]? with
  | none => rw [e] at h; simp at h
  | some l => rw [e] at h; exact hv.2 l (List.mem_of_getElem? e) s h

def visitS (g : List (List Nat)) (f : Nat) (st : List Bool × List Nat) (s : Nat) : List Bool × List Nat := if st.1.getD s true then st else visit g f st s
theorem visit_unf (g : List (List Nat)) (f : Nat) (st : List Bool × List Nat) (n : Nat) :
    visit g (f + 1) st n = (((succ g n).foldl (visitS g f) (st.1.set n true, st.2)).1, ((succ g n).foldl (visitS g f) (st.1.set n true, st.2)).2 ++ [n]) := rfl

/-- What a search of a node leaves. -/
def VisitOk (g : List (List Nat)) (st : List Bool × List Nat) (n : Nat) (r : List Bool × List Nat) : Prop :=
  ∃ L, r.2 = st.2 ++ (L ++ [n]) ∧ Found g st.1 r.1 (L ++ [n]) ∧ (∀ x ∈ L ++ [n], Desc g (L ++ [n]) n x) ∧
    ∀ (stk : List (Nat × Nat)) (k : Nat) (F : List Nat), DRun g k r.1 stk r.2 F → ∃ k', DRun g k' (st.1.set n true) (stk ++ [(n, 0)]) st.2 F
def FoldOk (g : List (List Nat)) (n : Nat) (j : Nat) (l : List Nat) (st r : List Bool × List Nat) : Prop :=
  ∃ L, r.2 = st.2 ++ L ∧ Found g st.1 r.1 L ∧ (∀ x ∈ L, ∃ s ∈ l, s ∈ L ∧ Desc g L s x) ∧ (∀ s ∈ l, r.1[s]? = some true) ∧
    ∀ (stk : List (Nat × Nat)) (k : Nat) (F : List Nat), DRun g k r.1 (stk ++ [(n, j + l.length)]) r.2 F → ∃ k', DRun g k' st.1 (stk ++ [(n, j)]) st.2 F

theorem fold_ok {g : List (List Nat)} (hv : ValidG g) (f : Nat) (ih : ∀ (st : List Bool × List Nat) (n : Nat), st.1.length = g.length → st.1[n]? = some false → whites st.1 ≤ f → VisitOk g st n (visit g f st n)) (n : Nat) :
    ∀ (l : List Nat) (j : Nat) (st : List Bool × List Nat), (∀ (k s : Nat), l[k]? = some s → (succ g n)[j + k]? = some s) → st.1.length = g.length → whites st.1 ≤ f → FoldOk g n j l st (l.foldl (visitS g f) st)
  | [], j, st, _, _, _ => ⟨[], by simp, Found.nil _ _, by simp, by simp, fun stk k F h => ⟨k, by simpa using h⟩⟩
  | s :: l, j, st, hl, hlen, hw => by
    have hs : (succ g n)[j]? = some s := by simpa using hl 0 s rfl
    have hslt : s < st.1.length := by rw [hlen]; exact succ_lt hv (List.mem_of_getElem? hs)
    have hl' : ∀ (k t : Nat), l[k]? = some t → (succ g n)[j + 1 + k]? = some t := fun k t hk => by
      have := hl (k + 1) t (by simpa using hk)
      rwa [show j + (k + 1) = j + 1 + k by omega] at this
    rw [List.foldl_cons]
    rcases dgetD hslt with ⟨hd, he⟩ | ⟨hd, he⟩
    · have e : visitS g f st s = st := by unfold visitS; rw [if_pos hd]
      rw [e]
      obtain ⟨L, h1, h2, h3, h4, h5⟩ := fold_ok hv f ih n l (j + 1) st hl' hlen hw
      refine ⟨L, h1, h2, fun x hx => ?_, fun t ht => ?_, fun stk k F hD => ?_⟩
      · obtain ⟨t, a, b, c⟩ := h3 x hx; exact ⟨t, by simp [a], b, c⟩
      · rcases List.mem_cons.1 ht with rfl | ht
        · exact h2.keep t he
        · exact h4 t ht
      · obtain ⟨k', hk'⟩ := h5 stk k F (by rw [List.length_cons, show j + (l.length + 1) = j + 1 + l.length by omega] at hD; exact hD)
        exact ⟨k' + 1, stk, n, j, rfl, .inr (.inl ⟨s, hs, he, hk'⟩)⟩
    · have e : visitS g f st s = visit g f st s := by unfold visitS; rw [if_neg (by rw [hd]; simp)]
      rw [e]
      obtain ⟨L1, a1, a2, a3, a4⟩ := ih st s hlen he hw
      obtain ⟨L2, h1, h2, h3, h4, h5⟩ := fold_ok hv f ih n l (j + 1) (visit g f st s) hl' (a2.len.trans hlen) (Nat.le_trans (whites_le a2.len a2.keep) hw)
      refine ⟨(L1 ++ [s]) ++ L2, by rw [h1, a1]; simp, a2.append h2, fun x hx => ?_, fun t ht => ?_, fun stk k F hD => ?_⟩
      · rcases List.mem_append.1 hx with hx | hx
        · exact ⟨s, by simp, by simp, (a3 x hx).mono (List.sublist_append_left _ _)⟩
        · obtain ⟨t, b1, b2, b3⟩ := h3 x hx
          exact ⟨t, by simp [b1], List.mem_append.2 (.inr b2), b3.mono (List.sublist_append_right _ _)⟩
      · rcases List.mem_cons.1 ht with rfl | ht
        · exact h2.keep t ((a2.mem t).1 (by simp)).1
        · exact h4 t ht
      · obtain ⟨k', hk'⟩ := h5 stk k F (by rw [List.length_cons, show j + (l.length + 1) = j + 1 + l.length by omega] at hD; exact hD)
        obtain ⟨k2, hk2⟩ := a4 (stk ++ [(n, j + 1)]) k' F hk'
        exact ⟨k2 + 1, stk, n, j, rfl, .inr (.inr ⟨s, hs, he, hk2⟩)⟩

theorem visit_ok {g : List (List Nat)} (hv : ValidG g) : ∀ (f : Nat) (st : List Bool × List Nat) (n : Nat), st.1.length = g.length → st.1[n]? = some false → whites st.1 ≤ f → VisitOk g st n (visit g f st n)
  | 0, st, n, _, h, hw => by have := whites_set h; omega
  | f + 1, st, n, hlen, h, hw => by
    have hws := whites_set h
    have hnl := (List.getElem?_eq_some_iff.1 h).1
    have hset : (st.1.set n true)[n]? = some true := by simp [hnl]
    have hset' : ∀ x : Nat, x ≠ n → (st.1.set n true)[x]? = st.1[x]? := fun x hx => List.getElem?_set_ne (Ne.symm hx)
    obtain ⟨L, h1, h2, h3, h4, h5⟩ := fold_ok hv f (visit_ok hv f) n (succ g n) 0 (st.1.set n true, st.2) (fun k s hk => by simpa using hk) (by simpa using hlen) (by dsimp only; omega)
    rw [visit_unf]
    generalize (succ g n).foldl (visitS g f) (st.1.set n true, st.2) = r at *
    dsimp only at h1 h2 h5 ⊢
    have hnL : n ∉ L := fun hm => by have := ((h2.mem n).1 hm).2; rw [hset] at this; simp at this
    refine ⟨L, by rw [h1]; simp, ⟨?_, ?_, ?_, ?_, ?_, ?_⟩, ?_, ?_⟩
    · have := h2.len; simpa using this
    · intro x
      rw [List.mem_append, List.mem_singleton, h2.mem]
      by_cases hx : x = n
      · subst hx; exact ⟨fun _ => ⟨h2.keep x hset, h⟩, fun _ => .inr rfl⟩
      · rw [hset' x hx]; simp [hx]
    · intro x hx
      refine h2.keep x ?_
      by_cases e : x = n
      · subst e; exact hset
      · rw [hset' x e]; exact hx
    · exact List.nodup_append.2 ⟨h2.nodup, by simp, fun a ha b hb e => by simp at hb; subst hb; subst e; exact hnL ha⟩
    · intro x hx s hs
      rcases List.mem_append.1 hx with hx | hx
      · exact h2.edge x hx s hs
      · simp at hx; subst hx; exact h4 s hs
    · intro x hx s hs hsm
      rcases List.mem_append.1 hx with hx1 | hx1 <;> rcases List.mem_append.1 hsm with hsm | hsm
      · rcases h2.back x hx1 s hs hsm with h1 | h1
        · exact .inl (h1.trans (List.sublist_append_left _ _))
        · exact .inr (h1.mono (List.sublist_append_left _ _))
      · simp at hsm; subst hsm
        obtain ⟨t, b1, b2, b3⟩ := h3 x hx1
        exact .inr (.step b1 (sub_two b2 (by simp)) (b3.mono (List.sublist_append_left _ _)))
      · exact .inl (sub_two hsm hx1)
      · simp at hx1 hsm; subst hx1; subst hsm; exact .inr (.refl _)
    · intro x hx
      rcases List.mem_append.1 hx with hx | hx
      · obtain ⟨t, b1, b2, b3⟩ := h3 x hx
        exact .step b1 (sub_two b2 (by simp)) (b3.mono (List.sublist_append_left _ _))
      · simp at hx; subst hx; exact .refl _
    · intro stk k F hD
      exact h5 stk (k + 1) F ⟨stk, n, 0 + (succ g n).length, rfl, .inl ⟨by simp, hD⟩⟩

/-- The finished nodes of the whole search. -/
theorem post_ok {g : List (List Nat)} (hv : ValidG g) : ∃ L, postL g = L ++ [0] ∧ (postL g).Nodup ∧ (∀ x ∈ postL g, x < g.length ∧ Desc g (postL g) 0 x ∧ ∀ s ∈ succ g x, s ∈ postL g ∧ ([s, x].Sublist (postL g) ∨ Desc g (postL g) s x)) ∧
    ∃ k, DRun g k ((List.replicate g.length false).set 0 true) [(0, 0)] [] (postL g) := by
  have hw : whites (List.replicate g.length false) ≤ g.length := by simp [whites]
  obtain ⟨L, h1, h2, h3, h4⟩ := visit_ok hv g.length (List.replicate g.length false, []) 0 (by simp) (by simp [hv.1]) hw
  have e : postL g = L ++ [0] := by unfold postL; rw [h1]; simp
  rw [e]
  refine ⟨L, rfl, h2.nodup, fun x hx => ⟨?_, h3 x hx, fun s hs => ?_⟩, ?_⟩
  · have := ((h2.mem x).1 hx).2
    have := (List.getElem?_eq_some_iff.1 this).1
    simpa using this
  · have hsm : s ∈ L ++ [0] := (h2.mem s).2 ⟨h2.edge x hx s hs, by have := succ_lt hv hs; simp [this]⟩
    exact ⟨hsm, h2.back x hx s hs hsm⟩
  · obtain ⟨k', hk'⟩ := h4 [] 0 (L ++ [0]) ⟨rfl, by rw [h1]; simp⟩
    exact ⟨k', by simpa using hk'⟩
end Go.Proofs.Ytojclalkfhoooaa

/-
  Plain mathematics: walks in a relation, dominance; the passes of Cooper, Harvey and Kennedy end, with the dominators.
-/
namespace Go.Proofs.Ytojclalkfhoooaa

/-- A walk by edges of E through nodes of which P holds. -/
inductive Walk (E : Nat → Nat → Prop) (P : Nat → Prop) : Nat → Nat → Prop
  | refl {a : Nat} : P a → Walk E P a a
  | snoc {a b c : Nat} : Walk E P a b → E b c → P c → Walk E P a c
theorem Walk.mono {E E' : Nat → Nat → Prop} {P P' : Nat → Prop} (hE : ∀ a b, P a → P b → E a b → E' a b) (hP : ∀ a, P a → P' a) {a b : Nat} (h : Walk E P a b) : P b ∧ Walk E' P' a b := by
  induction h with
  | refl h => exact ⟨h, .refl (hP _ h)⟩
  | snoc _ h2 h3 ih => exact ⟨h3, .snoc ih.2 (hE _ _ ih.1 h3 h2) (hP _ h3)⟩
theorem Walk.imp {E : Nat → Nat → Prop} {P P' : Nat → Prop} (hP : ∀ a, P a → P' a) {a b : Nat} (h : Walk E P a b) : Walk E P' a b := (h.mono (fun _ _ _ _ h => h) hP).2
theorem Walk.last {E : Nat → Nat → Prop} {P : Nat → Prop} {a b : Nat} (h : Walk E P a b) : P b := (h.mono (fun _ _ _ _ h => h) (fun _ h => h)).1
theorem Walk.first {E : Nat → Nat → Prop} {P : Nat → Prop} {a b : Nat} (h : Walk E P a b) : P a := by
  induction h with
  | refl h => exact h
  | snoc _ _ _ ih => exact ih
theorem Walk.trans {E : Nat → Nat → Prop} {P : Nat → Prop} {a b c : Nat} (h : Walk E P a b) (k : Walk E P b c) : Walk E P a c := by
  induction k with
  | refl _ => exact h
  | snoc _ h2 h3 ih => exact .snoc ih h2 h3

/-- d dominates x: no walk from the entry to x without d. -/
def Dom (E : Nat → Nat → Prop) (d x : Nat) : Prop := ¬ Walk E (· ≠ d) 0 x
def Reach (E : Nat → Nat → Prop) (x : Nat) : Prop := Walk E (fun _ => True) 0 x
theorem dom_refl (E : Nat → Nat → Prop) (x : Nat) : Dom E x x := fun h => h.last rfl
theorem dom_zero (E : Nat → Nat → Prop) (x : Nat) : Dom E 0 x := fun h => h.first rfl
theorem dom_pred {E : Nat → Nat → Prop} {d p x : Nat} (h : Dom E d x) (hne : d ≠ x) (hp : E p x) : Dom E d p := fun hw => h (.snoc hw hp (Ne.symm hne))
theorem dom_of_zero {E : Nat → Nat → Prop} {d : Nat} (h : Dom E d 0) : d = 0 := by
  by_cases e : d = 0
  · exact e
  · exact (h (.refl (Ne.symm e))).elim
theorem dom_preds {E : Nat → Nat → Prop} {d x : Nat} (hx : x ≠ 0) (h : ∀ p, E p x → Dom E d p) : Dom E d x := by
  intro hw
  cases hw with
  | refl _ => exact hx rfl
  | snoc h1 h2 _ => exact h _ h2 h1
theorem walk_split {E : Nat → Nat → Prop} {P : Nat → Prop} {x0 x : Nat} (b : Nat) (h : Walk E P x0 x) : Walk E (fun y => P y ∧ y ≠ b) x0 x ∨ Walk E P x0 b := by
  induction h with
  | refl h =>
    by_cases e : x0 = b
    · rw [← e]; exact .inr (.refl h)
    · exact .inl (.refl ⟨h, e⟩)
  | @snoc y c h1 h2 h3 ih =>
    rcases ih with ih | ih
    · by_cases e : c = b
      · rw [← e]; exact .inr (.snoc h1 h2 h3)
      · exact .inl (.snoc ih h2 ⟨h3, e⟩)
    · exact .inr ih
theorem dom_trans {E : Nat → Nat → Prop} {a b c : Nat} (h : Dom E a b) (k : Dom E b c) : Dom E a c := by
  intro hw
  rcases walk_split b hw with h1 | h1
  · exact k (h1.imp (fun _ h => h.2))
  · exact h h1
theorem dom_antisymm {E : Nat → Nat → Prop} {a b : Nat} (h : Dom E a b) (k : Dom E b a) (hr : Reach E a) : a = b := by
  by_cases e : a = b
  · exact e
  have key : ∀ {y : Nat}, Walk E (fun _ => True) 0 y → Walk E (fun z => z ≠ a ∧ z ≠ b) 0 y ∨ Walk E (· ≠ a) 0 b ∨ Walk E (· ≠ b) 0 a := by
    intro y hw
    induction hw with
    | refl _ =>
      by_cases h1 : 0 = a
      · exact .inr (.inr (by rw [← h1]; exact .refl (by rw [h1]; exact e)))
      · by_cases h2 : 0 = b
        · exact .inr (.inl (by rw [← h2]; exact .refl h1))
        · exact .inl (.refl ⟨h1, h2⟩)
    | @snoc x c _ h2 _ ih =>
      rcases ih with ih | ih | ih
      · by_cases h1 : c = a
        · subst h1; exact .inr (.inr (.snoc (ih.imp (fun _ h => h.2)) h2 e))
        · by_cases h3 : c = b
          · subst h3; exact .inr (.inl (.snoc (ih.imp (fun _ h => h.1)) h2 (Ne.symm e)))
          · exact .inl (.snoc ih h2 ⟨h1, h3⟩)
      · exact .inr (.inl ih)
      · exact .inr (.inr ih)
  rcases key hr with h1 | h1 | h1
  · exact absurd rfl h1.last.1
  · exact absurd h1 h
  · exact absurd h1 k

/-- The chain of immediate dominators as they stand. -/
inductive Anc (D : List Int) : Nat → Nat → Prop
  | refl (x : Nat) : Anc D x x
  | step {x y z : Nat} : D[x]? = some (y : Int) → Anc D y z → Anc D x z
theorem Anc.trans {D : List Int} {a b c : Nat} (h : Anc D a b) (k : Anc D b c) : Anc D a c := by
  induction h with
  | refl _ => exact k
  | step h1 _ ih => exact .step h1 (ih k)
def IsSet (D : List Int) (x : Nat) : Prop := ∃ y : Nat, D[x]? = some (y : Int)

/-- What is fixed: n nodes, the order 0 :: ns, positions. -/
structure Ctx (n : Nat) (ns : List Nat) (preds : List (List Nat)) (f : Int → Int) (at_ : Nat → Nat) (E : Nat → Nat → Prop) : Prop where
  lt : ∀ x ∈ 0 :: ns, x < n
  z : at_ 0 = 0
  sorted : ns.Pairwise (fun a b => at_ a < at_ b)
  pos : ∀ x ∈ ns, 0 < at_ x
  inj : ∀ x ∈ 0 :: ns, ∀ y ∈ 0 :: ns, at_ x = at_ y → x = y
  hf : ∀ x ∈ 0 :: ns, f (x : Int) = (at_ x : Int)
  pl : preds.length = n
  pm : ∀ v pr, preds[v]? = some pr → ∀ p, p ∈ pr ↔ E p v
  eo : ∀ u s, E u s → u ∈ 0 :: ns ∧ s ∈ 0 :: ns
  fw : ∀ v ∈ ns, ∃ p, E p v ∧ at_ p < at_ v

/-- The list of immediate dominators as it stands. -/
structure WF (n : Nat) (ns : List Nat) (at_ : Nat → Nat) (D : List Int) : Prop where
  len : D.length = n
  root : D[0]? = some 0
  up : ∀ x y : Nat, x ≠ 0 → D[x]? = some (y : Int) → at_ y < at_ x ∧ IsSet D y
  neg : ∀ (x : Nat) (v : Int), D[x]? = some v → v = -1 ∨ ∃ y : Nat, v = (y : Int)
  sub : ∀ x : Nat, IsSet D x → x ∈ 0 :: ns

section
variable {n : Nat} {ns : List Nat} {preds : List (List Nat)} {f : Int → Int} {at_ : Nat → Nat} {E : Nat → Nat → Prop}

theorem WF.set0 {D : List Int} (h : WF n ns at_ D) : IsSet D 0 := ⟨0, h.root⟩
theorem WF.anc0 {D : List Int} (h : WF n ns at_ D) {z : Nat} (ha : Anc D 0 z) : z = 0 := by
  have : ∀ {x z : Nat}, Anc D x z → x = 0 → z = 0 := by
    intro x z ha
    induction ha with
    | refl _ => exact id
    | @step x y z h1 _ ih =>
      rintro rfl
      rw [h.root] at h1
      exact ih (by have := Option.some.inj h1; omega)
  exact this ha rfl
theorem WF.anc_le {D : List Int} (h : WF n ns at_ D) {x z : Nat} (ha : Anc D x z) : IsSet D x → (z = x ∨ at_ z < at_ x) ∧ IsSet D z := by
  induction ha with
  | refl x => exact fun hs => ⟨.inl rfl, hs⟩
  | @step x y z h1 h2 ih =>
    intro hs
    by_cases hx : x = 0
    · subst hx
      rw [h.root] at h1
      have hy : y = 0 := by have := Option.some.inj h1; omega
      subst hy
      exact ih hs
    · obtain ⟨h3, h4⟩ := h.up x y hx h1
      obtain ⟨h5, h6⟩ := ih h4
      refine ⟨.inr ?_, h6⟩
      rcases h5 with rfl | h5 <;> omega
theorem WF.le {D : List Int} (h : WF n ns at_ D) {x z : Nat} (ha : Anc D x z) (hs : IsSet D x) : at_ z ≤ at_ x := by
  rcases (h.anc_le ha hs).1 with rfl | h1 <;> omega
theorem WF.to0 {D : List Int} (h : WF n ns at_ D) : ∀ (m x : Nat), at_ x ≤ m → IsSet D x → Anc D x 0
  | m, x, hm, hs => by
    by_cases hx : x = 0
    · subst hx; exact .refl _
    · obtain ⟨y, hy⟩ := hs
      obtain ⟨h1, h2⟩ := h.up x y hx hy
      cases m with
      | zero => omega
      | succ m => exact .step hy (WF.to0 h m y (by omega) h2)
theorem WF.lt {D : List Int} (h : WF n ns at_ D) {x : Nat} (hs : IsSet D x) : x < D.length := by
  obtain ⟨y, hy⟩ := hs; exact (List.getElem?_eq_some_iff.1 hy).1

theorem up_ok (hc : Ctx n ns preds f at_ E) {D : List Int} (h : WF n ns at_ D) (t : Nat) : ∀ (m a : Nat), at_ a ≤ m → IsSet D a →
    ∃ k r, UpN D f (t : Int) k a r ∧ Anc D a r ∧ IsSet D r ∧ at_ r ≤ t ∧ (r = a ∨ at_ r < at_ a) ∧ ∀ z, Anc D a z → at_ z ≤ t → Anc D r z
  | m, a, hm, hs => by
    have hfa := hc.hf a (h.sub a hs)
    by_cases hle : at_ a ≤ t
    · exact ⟨0, a, ⟨by rw [hfa]; omega, rfl⟩, .refl _, hs, hle, .inl rfl, fun z hz _ => hz⟩
    · have ha0 : a ≠ 0 := by rintro rfl; rw [hc.z] at hle; omega
      have hs0 := hs
      obtain ⟨y, hy⟩ := hs
      obtain ⟨h1, h2⟩ := h.up a y ha0 hy
      cases m with
      | zero => omega
      | succ m =>
        obtain ⟨k, r, a1, a2, a3, a4, a5, a6⟩ := up_ok hc h t m y (by omega) h2
        refine ⟨k + 1, r, ⟨by rw [hfa]; omega, y, h.lt h2, hy, a1⟩, .step hy a2, a3, a4, .inr (by rcases a5 with rfl | a5 <;> omega), fun z hz hzt => ?_⟩
        cases hz with
        | refl _ => omega
        | @step _ y' _ h3 h4 =>
          rw [hy] at h3
          have : y = y' := by have := Option.some.inj h3; omega
          subst this
          exact a6 z h4 hzt

theorem meet_ok (hc : Ctx n ns preds f at_ E) {D : List Int} (h : WF n ns at_ D) : ∀ (m a b : Nat), at_ a + at_ b ≤ m → IsSet D a → IsSet D b →
    ∃ k r, MeetN D f k a b r ∧ IsSet D r ∧ ∀ z, Anc D r z ↔ Anc D a z ∧ Anc D b z
  | m, a, b, hm, ha, hb => by
    by_cases e : a = b
    · subst e; exact ⟨0, a, ⟨rfl, rfl⟩, ha, fun z => by simp⟩
    · obtain ⟨j, a', u1, u2, u3, u4, u5, u6⟩ := up_ok hc h (at_ b) (at_ a) a (Nat.le_refl _) ha
      obtain ⟨j', b', v1, v2, v3, v4, v5, v6⟩ := up_ok hc h (at_ a') (at_ b) b (Nat.le_refl _) hb
      have hlt : at_ a' + at_ b' < at_ a + at_ b := by
        rcases u5 with rfl | u5
        · rcases v5 with rfl | v5
          · exact absurd (hc.inj _ (h.sub _ ha) _ (h.sub _ hb) (by omega)) e
          · omega
        · rcases v5 with rfl | v5 <;> omega
      cases m with
      | zero => omega
      | succ m =>
        obtain ⟨k, r, r1, r2, r3⟩ := meet_ok hc h m a' b' (by omega) u3 v3
        refine ⟨k + 1, r, ⟨e, j, a', by rw [hc.hf b (h.sub b hb)]; exact u1, j', b', by rw [hc.hf a' (h.sub a' u3)]; exact v1, r1⟩, r2, fun z => ?_⟩
        rw [r3]
        constructor
        · rintro ⟨h1, h2⟩; exact ⟨u2.trans h1, v2.trans h2⟩
        · rintro ⟨h1, h2⟩
          have h3 := u6 z h1 (h.le h2 hb)
          exact ⟨h3, v6 z h2 (h.le h3 u3)⟩

/-- The candidate after some predecessors. -/
def Cand (D : List Int) (S : List Nat) (d : Int) : Prop :=
  (d = -1 ∧ ∀ p ∈ S, ¬ IsSet D p) ∨ ∃ dn : Nat, d = (dn : Int) ∧ IsSet D dn ∧ ∀ z, Anc D dn z ↔ ∀ p ∈ S, IsSet D p → Anc D p z

theorem pick_ok (hc : Ctx n ns preds f at_ E) {D : List Int} (h : WF n ns at_ D) {p : Nat} (hp : p < D.length) {S : List Nat} {d : Int} (hd : Cand D S d) :
    ∃ d1, Cand D (S ++ [p]) d1 ∧ PickR D f p d d1 := by
  obtain ⟨x, hx⟩ : ∃ x, D[p]? = some x := ⟨_, List.getElem?_eq_getElem hp⟩
  rcases h.neg p x hx with rfl | ⟨y, rfl⟩
  · have hns : ¬ IsSet D p := fun ⟨y, hy⟩ => by rw [hx] at hy; have := Option.some.inj hy; omega
    refine ⟨d, ?_, -1, hx, .inl ⟨by omega, rfl⟩⟩
    rcases hd with ⟨h1, h2⟩ | ⟨dn, h1, h2, h3⟩
    · exact .inl ⟨h1, fun q hq => by rcases List.mem_append.1 hq with hq | hq; exact h2 q hq; simp at hq; subst hq; exact hns⟩
    · refine .inr ⟨dn, h1, h2, fun z => ?_⟩
      rw [h3]
      constructor
      · intro ha q hq hs
        rcases List.mem_append.1 hq with hq | hq
        · exact ha q hq hs
        · simp at hq; subst hq; exact absurd hs hns
      · exact fun ha q hq hs => ha q (List.mem_append.2 (.inl hq)) hs
  · have hs : IsSet D p := ⟨y, hx⟩
    rcases hd with ⟨rfl, h2⟩ | ⟨dn, rfl, h2, h3⟩
    · refine ⟨(p : Int), .inr ⟨p, rfl, hs, fun z => ?_⟩, _, hx, .inr (.inl ⟨by omega, by omega, rfl⟩)⟩
      constructor
      · intro ha q hq hq2
        rcases List.mem_append.1 hq with hq | hq
        · exact absurd hq2 (h2 q hq)
        · simp at hq; subst hq; exact ha
      · exact fun ha => ha p (by simp) hs
    · obtain ⟨k, r, r1, r2, r3⟩ := meet_ok hc h _ p dn (Nat.le_refl _) hs h2
      refine ⟨(r : Int), .inr ⟨r, rfl, r2, fun z => ?_⟩, _, hx, .inr (.inr ⟨by omega, dn, rfl, h.lt h2, k, r, r1, rfl⟩)⟩
      rw [r3, h3]
      constructor
      · rintro ⟨h4, h5⟩ q hq hq2
        rcases List.mem_append.1 hq with hq | hq
        · exact h5 q hq hq2
        · simp at hq; subst hq; exact h4
      · exact fun ha => ⟨ha p (by simp) hs, fun q hq hq2 => ha q (List.mem_append.2 (.inl hq)) hq2⟩

theorem preds_ok (hc : Ctx n ns preds f at_ E) {D : List Int} (h : WF n ns at_ D) : ∀ (l S : List Nat) (d : Int), (∀ p ∈ l, p < D.length) → Cand D S d → ∃ d1, Cand D (S ++ l) d1 ∧ PredsR D f l d d1
  | [], S, d, _, hd => ⟨d, by simpa using hd, rfl⟩
  | p :: l, S, d, hl, hd => by
    obtain ⟨d1, h1, h2⟩ := pick_ok hc h (hl p (by simp)) hd
    obtain ⟨d2, h3, h4⟩ := preds_ok hc h l (S ++ [p]) d1 (fun q hq => hl q (by simp [hq])) h1
    exact ⟨d2, by simpa using h3, d1, h2, h4⟩

theorem tot_ok (hc : Ctx n ns preds f at_ E) {D : List Int} (h : WF n ns at_ D) (l : List Nat) (hl : ∀ p ∈ l, p < D.length) : TotR D f l := by
  intro p hp
  refine ⟨hl p hp, fun d hd => ?_⟩
  have key : ∀ d1 S, Cand D S d1 → OkD D d1 := by
    rintro d1 S (⟨h1, _⟩ | ⟨dn, rfl, ⟨y, hy⟩, _⟩)
    · exact .inl h1
    · exact .inr ⟨dn, rfl, (List.getElem?_eq_some_iff.1 hy).1, _, hy, by omega⟩
  have hcd : ∃ S, Cand D S d := by
    rcases hd with rfl | ⟨dn, rfl, h1, x, hx, hx0⟩
    · exact ⟨[], .inl ⟨rfl, by simp⟩⟩
    · have hs : IsSet D dn := by rcases h.neg dn x hx with rfl | ⟨y, rfl⟩; omega; exact ⟨y, hx⟩
      exact ⟨[dn], .inr ⟨dn, rfl, hs, fun z => ⟨fun ha q hq _ => by simp at hq; subst hq; exact ha, fun ha => ha dn (by simp) hs⟩⟩⟩
  obtain ⟨S, hS⟩ := hcd
  obtain ⟨d1, h1, h2⟩ := pick_ok hc h (hl p hp) hS
  exact ⟨d1, key _ _ h1, h2⟩

/-- What the state E1 says of the node v. -/
def NodeOk (at_ : Nat → Nat) (E : Nat → Nat → Prop) (E1 : List Int) (v : Nat) (dn : Nat) : Prop :=
  at_ dn < at_ v ∧ IsSet E1 dn ∧ ∀ z, Anc E1 dn z ↔ ∀ p, E p v → IsSet E1 p → Anc E1 p z

theorem node_ok (hc : Ctx n ns preds f at_ E) {D : List Int} (h : WF n ns at_ D) {v : Nat} (hv : v ∈ ns) (hs : ∀ x ∈ 0 :: ns, at_ x < at_ v → IsSet D x) :
    ∃ pr dn, preds[v]? = some pr ∧ TotR D f pr ∧ PredsR D f pr (-1) (dn : Nat) ∧ NodeOk at_ E D v dn := by
  have hvn := hc.lt v (by simp [hv])
  obtain ⟨pr, hpr⟩ : ∃ pr, preds[v]? = some pr := ⟨_, List.getElem?_eq_getElem (by rw [hc.pl]; exact hvn)⟩
  have hm := hc.pm v pr hpr
  have hlt : ∀ p ∈ pr, p < D.length := fun p hp => by rw [h.len]; exact hc.lt p (hc.eo _ _ ((hm p).1 hp)).1
  obtain ⟨d, h1, h2⟩ := preds_ok hc h pr [] (-1) hlt (.inl ⟨rfl, by simp⟩)
  obtain ⟨p0, hp0, hlt0⟩ := hc.fw v hv
  have hs0 := hs p0 (hc.eo _ _ hp0).1 hlt0
  rcases h1 with ⟨_, h1⟩ | ⟨dn, rfl, h3, h4⟩
  · exact absurd hs0 (h1 p0 (by simpa using (hm p0).2 hp0))
  · have h4' : ∀ z, Anc D dn z ↔ ∀ p, E p v → IsSet D p → Anc D p z := fun z => by
      rw [h4]
      exact ⟨fun ha p hp => ha p (by simpa using (hm p).2 hp), fun ha p hp => ha p ((hm p).1 (by simpa using hp))⟩
    have := h.le (((h4' dn).1 (.refl _)) p0 hp0 hs0) hs0
    exact ⟨pr, dn, hpr, tot_ok hc h pr hlt, h2, by omega, h3, h4'⟩

theorem WF.put {D : List Int} (hc : Ctx n ns preds f at_ E) (h : WF n ns at_ D) {v dn : Nat} (hv : v ∈ ns) (h1 : at_ dn < at_ v) (h2 : IsSet D dn) : WF n ns at_ (D.set v (dn : Int)) := by
  have hvn := hc.lt v (by simp [hv])
  have hv0 : v ≠ 0 := by rintro rfl; have := hc.pos 0 hv; rw [hc.z] at this; omega
  have hvl : v < D.length := by rw [h.len]; exact hvn
  have key : ∀ x, IsSet D x → IsSet (D.set v (dn : Int)) x := by
    rintro x ⟨y, hy⟩
    by_cases e : v = x
    · subst e; exact ⟨dn, by rw [List.getElem?_set_self hvl]⟩
    · exact ⟨y, by rw [List.getElem?_set_ne e]; exact hy⟩
  refine ⟨by simpa using h.len, by rw [List.getElem?_set_ne hv0]; exact h.root, ?_, ?_, ?_⟩
  · intro x y hx hy
    by_cases e : v = x
    · subst e
      rw [List.getElem?_set_self hvl] at hy
      have : dn = y := by have := Option.some.inj hy; omega
      subst this
      exact ⟨h1, key _ h2⟩
    · rw [List.getElem?_set_ne e] at hy
      obtain ⟨h3, h4⟩ := h.up x y hx hy
      exact ⟨h3, key _ h4⟩
  · intro x w hw
    by_cases e : v = x
    · subst e
      rw [List.getElem?_set_self hvl] at hw
      exact .inr ⟨dn, (Option.some.inj hw).symm⟩
    · rw [List.getElem?_set_ne e] at hw
      exact h.neg x w hw
  · rintro x ⟨y, hy⟩
    by_cases e : v = x
    · subst e; simp [hv]
    · rw [List.getElem?_set_ne e] at hy
      exact h.sub x ⟨y, hy⟩

/-- One pass: at each node a state between the old and the new. -/
def PassOk (ns : List Nat) (at_ : Nat → Nat) (E : Nat → Nat → Prop) (n : Nat) (l : List Nat) (D D' : List Int) : Prop :=
  ∀ v ∈ l, ∃ (E1 : List Int) (dn : Nat), WF n ns at_ E1 ∧ (∀ y ∈ 0 :: ns, at_ y < at_ v → E1[y]? = D'[y]?) ∧ (∀ y : Nat, at_ v ≤ at_ y → E1[y]? = D[y]?) ∧ D'[v]? = some (dn : Int) ∧ NodeOk at_ E E1 v dn

theorem pass_ok (hc : Ctx n ns preds f at_ E) : ∀ (l : List Nat) (D : List Int) (ch : Bool), WF n ns at_ D → (∀ v ∈ l, v ∈ ns) → l.Pairwise (fun a b => at_ a < at_ b) → (∀ x ∈ 0 :: ns, x ∉ l → IsSet D x ∧ ∀ v ∈ l, at_ x < at_ v) →
    ∃ D' ch', PassR preds f l D ch D' ch' ∧ WF n ns at_ D' ∧ (∀ x : Nat, x ∉ l → D'[x]? = D[x]?) ∧ PassOk ns at_ E n l D D' ∧ (∀ x ∈ 0 :: ns, IsSet D' x) ∧ (ch' = false → ch = false ∧ D' = D) ∧ (ch' = true → ch = true ∨ D' ≠ D)
  | [], D, ch, h, _, _, hs => ⟨D, ch, ⟨rfl, rfl⟩, h, fun _ _ => rfl, fun v hv => by simp at hv, fun x hx => (hs x hx (by simp)).1, fun e => ⟨e, rfl⟩, .inl⟩
  | v :: l, D, ch, h, hl, hp, hs => by
    have hv := hl v (by simp)
    have hp1 := (List.pairwise_cons.1 hp).1
    have hp2 := (List.pairwise_cons.1 hp).2
    have hvl : v ∉ l := fun hm => by have := hp1 v hm; omega
    have hsv : ∀ x ∈ 0 :: ns, at_ x < at_ v → IsSet D x := by
      intro x hx hlt
      by_cases hm : x ∈ v :: l
      · rcases List.mem_cons.1 hm with rfl | hm
        · omega
        · have := hp1 x hm; omega
      · exact (hs x hx hm).1
    obtain ⟨pr, dn, b1, b2, b3, b4⟩ := node_ok hc h hv hsv
    have hvn : v < D.length := by rw [h.len]; exact hc.lt v (by simp [hv])
    obtain ⟨old, hold⟩ : ∃ old, D[v]? = some old := ⟨_, List.getElem?_eq_getElem hvn⟩
    have hw1 := h.put hc hv b4.1 b4.2.1
    have hself : (D.set v (dn : Int))[v]? = some (dn : Int) := List.getElem?_set_self hvn
    have hother : ∀ y : Nat, y ≠ v → (D.set v (dn : Int))[y]? = D[y]? := fun y hy => List.getElem?_set_ne (Ne.symm hy)
    obtain ⟨D', ch', c1, c2, c3, c4, c5, c6, c7⟩ := pass_ok hc l (D.set v (dn : Int)) (if old = (dn : Int) then ch else true) hw1 (fun x hx => hl x (by simp [hx])) hp2 (by
      intro x hx hm
      by_cases e : x = v
      · subst e; exact ⟨⟨dn, hself⟩, hp1⟩
      · have := hs x hx (by simp [e, hm])
        obtain ⟨⟨y, hy⟩, h2⟩ := this
        exact ⟨⟨y, by rw [hother x e]; exact hy⟩, fun u hu => h2 u (by simp [hu])⟩)
    refine ⟨D', ch', ⟨pr, dn, old, b1, b2, b3, hold, ?_⟩, c2, ?_, ?_, c5, ?_, ?_⟩
    · by_cases e : old = (dn : Int)
      · refine .inl ⟨e, ?_⟩
        have e2 : D.set v (dn : Int) = D := by
          apply List.ext_getElem?
          intro i
          by_cases hi : i = v
          · subst hi; rw [hself, hold, e]
          · exact hother i hi
        rw [if_pos e, e2] at c1
        exact c1
      · rw [if_neg e] at c1
        exact .inr ⟨e, c1⟩
    · intro x hx
      rw [c3 x (fun hm => hx (by simp [hm])), hother x (fun e => hx (by simp [e]))]
    · intro u hu0
      rcases List.mem_cons.1 hu0 with rfl | hu
      · refine ⟨D, dn, h, fun y hy hlt => ?_, fun _ _ => rfl, by rw [c3 u hvl]; exact hself, b4⟩
        rw [c3 y (fun hm => by have := hp1 y hm; omega), hother y (fun e => by subst e; omega)]
      · obtain ⟨E1, d1, e1, e2, e3, e4, e5⟩ := c4 u hu
        refine ⟨E1, d1, e1, e2, fun y hy => ?_, e4, e5⟩
        rw [e3 y hy, hother y (fun e => by have := hp1 u hu; rw [e] at hy; omega)]
    · intro e
      obtain ⟨d1, d2⟩ := c6 e
      by_cases e' : old = (dn : Int)
      · rw [if_pos e'] at d1
        refine ⟨d1, d2.trans ?_⟩
        apply List.ext_getElem?
        intro i
        by_cases hi : i = v
        · subst hi; rw [hself, hold, e']
        · exact hother i hi
      · rw [if_neg e'] at d1; simp at d1
    · intro e
      by_cases e' : old = (dn : Int)
      · have e2 : D.set v (dn : Int) = D := by
          apply List.ext_getElem?
          intro i
          by_cases hi : i = v
          · subst hi; rw [hself, hold, e']
          · exact hother i hi
        rcases c7 e with c7 | c7
        · rw [if_pos e'] at c7; exact .inl c7
        · rw [e2] at c7; exact .inr c7
      · refine .inr (fun e3 => e' ?_)
        have h1 := c3 v hvl
        rw [hself, e3, hold] at h1
        exact Option.some.inj h1
end
end Go.Proofs.Ytojclalkfhoooaa

/-
  Plain mathematics: rounds of the passes; they end; the chains are the dominators.
-/
namespace Go.Proofs.Ytojclalkfhoooaa
section
variable {n : Nat} {ns : List Nat} {preds : List (List Nat)} {f : Int → Int} {at_ : Nat → Nat} {E : Nat → Nat → Prop}

theorem anc_congr {D D' : List Int} (h : WF n ns at_ D) {x z : Nat} (ha : Anc D x z) : IsSet D x → (∀ y ∈ 0 :: ns, at_ y ≤ at_ x → D[y]? = D'[y]?) → Anc D' x z := by
  induction ha with
  | refl x => exact fun _ _ => .refl x
  | @step x y z h1 h2 ih =>
    intro hs heq
    have hx := heq x (h.sub x hs) (Nat.le_refl _)
    have h3 := (h.anc_le (.step h1 (.refl y)) hs)
    have hle : at_ y ≤ at_ x := by rcases h3.1 with rfl | h4 <;> omega
    exact .step (hx ▸ h1) (ih h3.2 (fun u hu hle' => heq u hu (by omega)))

/-- A round's invariants. -/
structure RI (n : Nat) (ns : List Nat) (at_ : Nat → Nat) (E : Nat → Nat → Prop) (D : List Int) : Prop where
  wf : WF n ns at_ D
  all : ∀ x ∈ 0 :: ns, IsSet D x
  H : ∀ v ∈ ns, ∀ p, E p v → at_ p < at_ v → ∀ z, Anc D v z → z ≠ v → Anc D p z
  J : ∀ v ∈ ns, ∀ z, (∀ p, E p v → Anc D p z) → Anc D v z
  S : ∀ v ∈ 0 :: ns, ∀ z, Dom E z v → Anc D v z

/-- The state in between, seen from the new one. -/
theorem mix_iff {E1 D D' : List Int} {v : Nat} (h1 : WF n ns at_ E1) (h' : WF n ns at_ D') (ha : ∀ y ∈ 0 :: ns, at_ y < at_ v → E1[y]? = D'[y]?) {x : Nat} (hs : IsSet E1 x) (hs' : IsSet D' x) (hlt : at_ x < at_ v) (z : Nat) :
    Anc E1 x z ↔ Anc D' x z :=
  ⟨fun h => anc_congr h1 h hs (fun y hy hle => ha y hy (by omega)), fun h => anc_congr h' h hs' (fun y hy hle => (ha y hy (by omega)).symm)⟩

theorem ns_ne0 (hc : Ctx n ns preds f at_ E) {v : Nat} (hv : v ∈ ns) : v ≠ 0 := by rintro rfl; have := hc.pos 0 hv; rw [hc.z] at this; omega

theorem first_round (hc : Ctx n ns preds f at_ E) {D' : List Int} (h' : WF n ns at_ D') (hall : ∀ x ∈ 0 :: ns, IsSet D' x) (hp : PassOk ns at_ E n ns ((0 : Int) :: List.replicate (n - 1) (-1)) D') : RI n ns at_ E D' := by
  have hD0 : ∀ y : Nat, y ≠ 0 → ∀ w : Nat, ((0 : Int) :: List.replicate (n - 1) (-1))[y]? ≠ some (w : Int) := by
    intro y hy w
    cases y with
    | zero => exact absurd rfl hy
    | succ y =>
      rw [List.getElem?_cons_succ, List.getElem?_replicate]
      split
      · intro e; have := Option.some.inj e; omega
      · simp
  have key : ∀ v ∈ ns, ∃ dn : Nat, D'[v]? = some (dn : Int) ∧ at_ dn < at_ v ∧ ∀ z, Anc D' dn z ↔ ∀ p, E p v → at_ p < at_ v → Anc D' p z := by
    intro v hv
    obtain ⟨E1, dn, e1, e2, e3, e4, e5, e6, e7⟩ := hp v hv
    have hset : ∀ p ∈ 0 :: ns, at_ p < at_ v → IsSet E1 p := fun p hp hlt => by
      obtain ⟨y, hy⟩ := hall p hp
      exact ⟨y, by rw [e2 p hp hlt]; exact hy⟩
    refine ⟨dn, e4, e5, fun z => ?_⟩
    rw [← mix_iff (D := D') e1 h' e2 e6 (hall dn (e1.sub dn e6)) e5 z, e7]
    constructor
    · intro h p hpv hlt
      have hpo := (hc.eo _ _ hpv).1
      exact (mix_iff (D := D') e1 h' e2 (hset p hpo hlt) (hall p hpo) hlt z).1 (h p hpv (hset p hpo hlt))
    · intro h p hpv hs
      have hpo := (hc.eo _ _ hpv).1
      by_cases hlt : at_ p < at_ v
      · exact (mix_iff (D := D') e1 h' e2 hs (hall p hpo) hlt z).2 (h p hpv hlt)
      · obtain ⟨y, hy⟩ := hs
        rw [e3 p (by omega)] at hy
        by_cases hp0 : p = 0
        · subst hp0; rw [hc.z] at hlt; omega
        · exact absurd hy (hD0 p hp0 y)
  have hup : ∀ v ∈ ns, ∀ dn : Nat, D'[v]? = some (dn : Int) → ∀ z, Anc D' v z → z ≠ v → Anc D' dn z := by
    intro v hv dn hdn z hz hne
    cases hz with
    | refl _ => exact absurd rfl hne
    | @step _ y _ h1 h2 =>
      rw [hdn] at h1
      have : dn = y := by have := Option.some.inj h1; omega
      subst this; exact h2
  refine ⟨h', hall, ?_, ?_, ?_⟩
  · intro v hv p hpv hlt z hz hne
    obtain ⟨dn, k1, k2, k3⟩ := key v hv
    exact (k3 z).1 (hup v hv dn k1 z hz hne) p hpv hlt
  · intro v hv z hz
    obtain ⟨dn, k1, k2, k3⟩ := key v hv
    exact .step k1 ((k3 z).2 (fun p hpv _ => hz p hpv))
  · have hS : ∀ (m v : Nat), at_ v ≤ m → v ∈ 0 :: ns → ∀ z, Dom E z v → Anc D' v z := by
      intro m
      induction m with
      | zero =>
        intro v hm hv z hz
        rcases List.mem_cons.1 hv with rfl | hv
        · have := dom_of_zero hz; subst this; exact .refl _
        · have := hc.pos v hv; omega
      | succ m ih =>
        intro v hm hv z hz
        rcases List.mem_cons.1 hv with rfl | hv
        · have := dom_of_zero hz; subst this; exact .refl _
        · by_cases e : z = v
          · subst e; exact .refl _
          · obtain ⟨dn, k1, k2, k3⟩ := key v hv
            exact .step k1 ((k3 z).2 (fun p hpv hlt => ih p (by omega) (hc.eo _ _ hpv).1 z (dom_pred hz e hpv)))
    exact fun v hv z hz => hS _ v (Nat.le_refl _) hv z hz

theorem next_round (hc : Ctx n ns preds f at_ E) {D D' : List Int} (h : RI n ns at_ E D) (h' : WF n ns at_ D') (hall : ∀ x ∈ 0 :: ns, IsSet D' x) (hp : PassOk ns at_ E n ns D D') :
    RI n ns at_ E D' ∧ ∀ v ∈ 0 :: ns, ∀ z, Anc D' v z → Anc D v z := by
  have hset : ∀ v ∈ ns, ∀ E1 : List Int, (∀ y ∈ 0 :: ns, at_ y < at_ v → E1[y]? = D'[y]?) → (∀ y : Nat, at_ v ≤ at_ y → E1[y]? = D[y]?) → ∀ p ∈ 0 :: ns, IsSet E1 p := by
    intro v hv E1 e2 e3 p hp
    by_cases hlt : at_ p < at_ v
    · obtain ⟨y, hy⟩ := hall p hp; exact ⟨y, by rw [e2 p hp hlt]; exact hy⟩
    · obtain ⟨y, hy⟩ := h.all p hp; exact ⟨y, by rw [e3 p (by omega)]; exact hy⟩
  have L1 : ∀ v ∈ ns, ∀ E1 : List Int, WF n ns at_ E1 → (∀ y ∈ 0 :: ns, at_ y < at_ v → E1[y]? = D'[y]?) → (∀ y : Nat, at_ v ≤ at_ y → E1[y]? = D[y]?) → ∀ {p z : Nat}, Anc E1 p z → p ∈ 0 :: ns → at_ v ≤ at_ p →
      (at_ v ≤ at_ z ∧ Anc D p z) ∨ (at_ z < at_ v ∧ ∃ u ∈ 0 :: ns, Anc D p u ∧ at_ u < at_ v ∧ Anc D' u z) := by
    intro v hv E1 e1 e2 e3 p z ha
    induction ha with
    | refl p => exact fun _ hle => .inl ⟨hle, .refl _⟩
    | @step p c z h1 h2 ih =>
      intro hpo hle
      have hps : IsSet E1 p := ⟨c, h1⟩
      have hcs := (e1.anc_le (.step h1 (.refl c)) hps).2
      have hco := e1.sub c hcs
      have hD : D[p]? = some (c : Int) := by rw [← e3 p hle]; exact h1
      by_cases hlt : at_ c < at_ v
      · have hz := e1.le h2 hcs
        exact .inr ⟨by omega, c, hco, .step hD (.refl c), hlt, (mix_iff (D := D') e1 h' e2 hcs (hall c hco) hlt z).1 h2⟩
      · rcases ih hco (by omega) with ⟨a, b⟩ | ⟨a, u, b, b', b'', b'''⟩
        · exact .inl ⟨a, .step hD b⟩
        · exact .inr ⟨a, u, b, .step hD b', b'', b'''⟩
  have L2 : ∀ v ∈ ns, ∀ E1 : List Int, (∀ y : Nat, at_ v ≤ at_ y → E1[y]? = D[y]?) → ∀ {p z : Nat}, Anc D p z → IsSet D p → at_ v ≤ at_ p → at_ z < at_ v → ∃ u ∈ 0 :: ns, Anc D p u ∧ at_ u < at_ v ∧ Anc D u z ∧ Anc E1 p u := by
    intro v hv E1 e3 p z ha
    induction ha with
    | refl p => intro _ h1 h2; omega
    | @step p c z h1 h2 ih =>
      intro hps hle hlt
      have hcs := (h.wf.anc_le (.step h1 (.refl c)) hps).2
      have hE : E1[p]? = some (c : Int) := by rw [e3 p hle]; exact h1
      by_cases hl : at_ c < at_ v
      · exact ⟨c, h.wf.sub c hcs, .step h1 (.refl c), hl, h2, .step hE (.refl c)⟩
      · obtain ⟨u, a, b, b', b'', b'''⟩ := ih hcs (by omega) hlt
        exact ⟨u, a, .step h1 b, b', b'', .step hE b'''⟩
  have hup : ∀ {B : List Int} {v dn : Nat}, B[v]? = some (dn : Int) → ∀ {z : Nat}, Anc B v z → z ≠ v → Anc B dn z := by
    intro B v dn hdn z hz hne
    cases hz with
    | refl _ => exact absurd rfl hne
    | @step _ y _ h1 h2 =>
      rw [hdn] at h1
      have : dn = y := by have := Option.some.inj h1; omega
      subst this; exact h2
  have C : ∀ (m v : Nat), at_ v ≤ m → v ∈ 0 :: ns → (∀ z, Anc D' v z → Anc D v z) ∧ ∀ u, Anc D v u → ∀ z, Anc D' v z → at_ z ≤ at_ u → Anc D' u z := by
    intro m
    have base : (∀ z, Anc D' 0 z → Anc D 0 z) ∧ ∀ u, Anc D 0 u → ∀ z, Anc D' 0 z → at_ z ≤ at_ u → Anc D' u z :=
      ⟨fun z hz => by have := h'.anc0 hz; subst this; exact .refl _, fun u hu z hz _ => by have := h.wf.anc0 hu; subst this; exact hz⟩
    induction m with
    | zero =>
      intro v hm hv
      rcases List.mem_cons.1 hv with rfl | hv
      · exact base
      · have := hc.pos v hv; omega
    | succ m ih =>
      intro v hm hv
      rcases List.mem_cons.1 hv with rfl | hv
      · exact base
      · obtain ⟨E1, dn, e1, e2, e3, e4, e5, e6, e7⟩ := hp v hv
        have hvo : v ∈ 0 :: ns := by simp [hv]
        have hes := hset v hv E1 e2 e3
        obtain ⟨f0, hf0, hf1⟩ := hc.fw v hv
        have hall1 : ∀ z, Anc D' v z → z ≠ v → at_ z < at_ v ∧ ∀ p, E p v → Anc E1 p z := by
          intro z hz hne
          have h1 := hup e4 hz hne
          have hdo := e1.sub dn e6
          have h2 := h'.le h1 (hall dn hdo)
          exact ⟨by omega, fun p hpv => (e7 z).1 ((mix_iff (D := D') e1 h' e2 e6 (hall dn hdo) e5 z).2 h1) p hpv (hes p (hc.eo _ _ hpv).1)⟩
        refine ⟨fun z hz => ?_, fun u hu z hz hzu => ?_⟩
        · by_cases e : z = v
          · subst e; exact .refl _
          · obtain ⟨hzv, hzp⟩ := hall1 z hz e
            refine h.J v hv z (fun p hpv => ?_)
            have hpo := (hc.eo _ _ hpv).1
            by_cases hlt : at_ p < at_ v
            · exact (ih p (by omega) hpo).1 z ((mix_iff (D := D') e1 h' e2 (hes p hpo) (hall p hpo) hlt z).1 (hzp p hpv))
            · rcases L1 v hv E1 e1 e2 e3 (hzp p hpv) hpo (by omega) with ⟨a, _⟩ | ⟨_, u, b, b', b'', b'''⟩
              · omega
              · exact b'.trans ((ih u (by omega) b).1 z b''')
        · by_cases e : u = v
          · subst e; exact hz
          · have hzne : z ≠ v := by
              rintro rfl
              rcases (h.wf.anc_le hu (h.all z hvo)).1 with h1 | h1
              · exact e h1
              · omega
            obtain ⟨hzv, hzp⟩ := hall1 z hz hzne
            have hfo := (hc.eo _ _ hf0).1
            exact (ih f0 (by omega) hfo).2 u (h.H v hv f0 hf0 hf1 u hu e) z ((mix_iff (D := D') e1 h' e2 (hes f0 hfo) (hall f0 hfo) hf1 z).1 (hzp f0 hf0)) hzu
  have C1 : ∀ v ∈ 0 :: ns, ∀ z, Anc D' v z → Anc D v z := fun v hv => (C _ v (Nat.le_refl _) hv).1
  have C2 : ∀ v ∈ 0 :: ns, ∀ u, Anc D v u → ∀ z, Anc D' v z → at_ z ≤ at_ u → Anc D' u z := fun v hv => (C _ v (Nat.le_refl _) hv).2
  have SS : ∀ (m p : Nat), at_ p ≤ m → p ∈ 0 :: ns → ∀ u, Anc D p u → ∀ z, Dom E z p → at_ z ≤ at_ u → Dom E z u := by
    intro m
    induction m with
    | zero =>
      intro p hm hpo u hu z hz _
      rcases List.mem_cons.1 hpo with rfl | hv
      · have := h.wf.anc0 hu; subst this; exact hz
      · have := hc.pos p hv; omega
    | succ m ih =>
      intro p hm hpo u hu z hz hzu
      rcases List.mem_cons.1 hpo with rfl | hv
      · have := h.wf.anc0 hu; subst this; exact hz
      · by_cases e : u = p
        · subst e; exact hz
        · obtain ⟨f0, hf0, hf1⟩ := hc.fw p hv
          have hzne : z ≠ p := by
            rintro rfl
            rcases (h.wf.anc_le hu (h.all z hpo)).1 with h1 | h1
            · exact e h1
            · omega
          exact ih f0 (by omega) (hc.eo _ _ hf0).1 u (h.H p hv f0 hf0 hf1 u hu e) z (dom_pred hz hzne hf0) hzu
  refine ⟨⟨h', hall, ?_, ?_, ?_⟩, C1⟩
  · intro v hv p hpv hlt z hz hne
    obtain ⟨E1, dn, e1, e2, e3, e4, e5, e6, e7⟩ := hp v hv
    have hes := hset v hv E1 e2 e3
    have hdo := e1.sub dn e6
    have hpo := (hc.eo _ _ hpv).1
    have h1 := (mix_iff (D := D') e1 h' e2 e6 (hall dn hdo) e5 z).2 (hup e4 hz hne)
    exact (mix_iff (D := D') e1 h' e2 (hes p hpo) (hall p hpo) hlt z).1 ((e7 z).1 h1 p hpv (hes p hpo))
  · intro v hv z hz
    obtain ⟨E1, dn, e1, e2, e3, e4, e5, e6, e7⟩ := hp v hv
    have hes := hset v hv E1 e2 e3
    have hdo := e1.sub dn e6
    obtain ⟨f0, hf0, hf1⟩ := hc.fw v hv
    have hz0 := h'.le (hz f0 hf0) (hall f0 (hc.eo _ _ hf0).1)
    refine .step e4 ((mix_iff (D := D') e1 h' e2 e6 (hall dn hdo) e5 z).1 ((e7 z).2 (fun p hpv _ => ?_)))
    have hpo := (hc.eo _ _ hpv).1
    by_cases hlt : at_ p < at_ v
    · exact (mix_iff (D := D') e1 h' e2 (hes p hpo) (hall p hpo) hlt z).2 (hz p hpv)
    · obtain ⟨u, b, b', b'', b3, b4⟩ := L2 v hv E1 e3 (C1 p hpo z (hz p hpv)) (h.all p hpo) (by omega) (by omega)
      have h1 := C2 p hpo u b' z (hz p hpv) (h.wf.le b3 (h.all u b))
      exact b4.trans ((mix_iff (D := D') e1 h' e2 (hes u b) (hall u b) b'' z).2 h1)
  · have hS : ∀ (m v : Nat), at_ v ≤ m → v ∈ 0 :: ns → ∀ z, Dom E z v → Anc D' v z := by
      intro m
      induction m with
      | zero =>
        intro v hm hv z hz
        rcases List.mem_cons.1 hv with rfl | hv
        · have := dom_of_zero hz; subst this; exact .refl _
        · have := hc.pos v hv; omega
      | succ m ih =>
        intro v hm hv z hz
        rcases List.mem_cons.1 hv with rfl | hv
        · have := dom_of_zero hz; subst this; exact .refl _
        · by_cases e : z = v
          · subst e; exact .refl _
          · obtain ⟨E1, dn, e1, e2, e3, e4, e5, e6, e7⟩ := hp v hv
            have hes := hset v hv E1 e2 e3
            have hdo := e1.sub dn e6
            obtain ⟨f0, hf0, hf1⟩ := hc.fw v hv
            have hf0o := (hc.eo _ _ hf0).1
            have hz0 := h'.le (ih f0 (by omega) hf0o z (dom_pred hz e hf0)) (hall f0 hf0o)
            refine .step e4 ((mix_iff (D := D') e1 h' e2 e6 (hall dn hdo) e5 z).1 ((e7 z).2 (fun p hpv _ => ?_)))
            have hpo := (hc.eo _ _ hpv).1
            have hzp := dom_pred hz e hpv
            by_cases hlt : at_ p < at_ v
            · exact (mix_iff (D := D') e1 h' e2 (hes p hpo) (hall p hpo) hlt z).2 (ih p (by omega) hpo z hzp)
            · obtain ⟨u, b, b', b'', b3, b4⟩ := L2 v hv E1 e3 (h.S p hpo z hzp) (h.all p hpo) (by omega) (by omega)
              have h1 := SS _ p (Nat.le_refl _) hpo u b' z hzp (h.wf.le b3 (h.all u b))
              exact b4.trans ((mix_iff (D := D') e1 h' e2 (hes u b) (hall u b) b'' z).2 (ih u (by omega) b z h1))
    exact fun v hv z hz => hS _ v (Nat.le_refl _) hv z hz

/-- The measure: positions of the immediate dominators. -/
def meas (at_ : Nat → Nat) (ns : List Nat) (D : List Int) : Nat := (ns.map fun x => at_ (D.getD x 0).toNat).sum
theorem sum_le (g g' : Nat → Nat) : ∀ (l : List Nat), (∀ x ∈ l, g' x ≤ g x) → (l.map g').sum ≤ (l.map g).sum ∧ ((∃ x ∈ l, g' x < g x) → (l.map g').sum < (l.map g).sum)
  | [], _ => ⟨Nat.le_refl _, fun ⟨x, hx, _⟩ => by simp at hx⟩
  | a :: l, h => by
    obtain ⟨h1, h2⟩ := sum_le g g' l (fun x hx => h x (by simp [hx]))
    have h3 := h a (by simp)
    simp only [List.map_cons, List.sum_cons]
    refine ⟨by omega, fun ⟨x, hx, hlt⟩ => ?_⟩
    rcases List.mem_cons.1 hx with rfl | hx
    · omega
    · have := h2 ⟨x, hx, hlt⟩; omega

theorem rounds_end (hc : Ctx n ns preds f at_ E) : ∀ (m : Nat) (D : List Int), meas at_ ns D ≤ m → RI n ns at_ E D → ∃ k D', DomR preds f ns k D D' ∧ RI n ns at_ E D' ∧ PassOk ns at_ E n ns D' D' := by
  intro m
  induction m using Nat.strongRecOn with
  | _ m IH =>
    intro D hm h
    obtain ⟨D', ch, c1, c2, c3, c4, c5, c6, c7⟩ := pass_ok hc ns D false h.wf (fun v hv => hv) hc.sorted (by
      intro x hx hm
      rcases List.mem_cons.1 hx with rfl | hx
      · exact ⟨h.wf.set0, fun v hv => by rw [hc.z]; exact hc.pos v hv⟩
      · exact absurd hx hm)
    obtain ⟨hri, hsub⟩ := next_round hc h c2 c5 c4
    cases ch with
    | false =>
      obtain ⟨_, rfl⟩ := c6 rfl
      exact ⟨1, D', ⟨D', false, c1, .inl ⟨rfl, rfl⟩⟩, hri, c4⟩
    | true =>
      have hne : D' ≠ D := by rcases c7 rfl with h1 | h1; simp at h1; exact h1
      have hval : ∀ x ∈ ns, ∃ y y' : Nat, D[x]? = some (y : Int) ∧ D'[x]? = some (y' : Int) ∧ (y' = y ∨ at_ y' < at_ y) := by
        intro x hx
        have hxo : x ∈ 0 :: ns := by simp [hx]
        obtain ⟨y, hy⟩ := h.all x hxo
        obtain ⟨y', hy'⟩ := c5 x hxo
        refine ⟨y, y', hy, hy', ?_⟩
        have h1 := hsub x hxo y' (.step hy' (.refl _))
        have h2 := (c2.up x y' (ns_ne0 hc hx) hy').1
        have h5 := (h.wf.up x y (ns_ne0 hc hx) hy).2
        cases h1 with
        | refl _ => omega
        | @step _ w _ h3 h4 =>
          rw [hy] at h3
          have : y = w := by have := Option.some.inj h3; omega
          subst this
          exact (h.wf.anc_le h4 h5).1
      have hget : ∀ (B : List Int) (x y : Nat), B[x]? = some (y : Int) → (B.getD x 0).toNat = y := fun B x y hy => by rw [List.getD_eq_getElem?_getD, hy]; simp
      have hlt : meas at_ ns D' < meas at_ ns D := by
        refine (sum_le _ _ ns (fun x hx => ?_)).2 ?_
        · obtain ⟨y, y', h1, h2, h3⟩ := hval x hx
          rw [hget D x y h1, hget D' x y' h2]
          rcases h3 with rfl | h3 <;> omega
        · by_cases hex : ∃ x ∈ ns, D'[x]? ≠ D[x]?
          · obtain ⟨x, hx, hxe⟩ := hex
            obtain ⟨y, y', h1, h2, h3⟩ := hval x hx
            refine ⟨x, hx, ?_⟩
            rw [hget D x y h1, hget D' x y' h2]
            rcases h3 with rfl | h3
            · exact absurd (h2.trans h1.symm) hxe
            · exact h3
          · refine absurd (List.ext_getElem? fun i => ?_) hne
            by_cases hi : i ∈ ns
            · by_cases he : D'[i]? = D[i]?
              · exact he
              · exact absurd ⟨i, hi, he⟩ hex
            · exact c3 i hi
      obtain ⟨k, D2, r1, r2, r3⟩ := IH (meas at_ ns D') (by omega) D' (Nat.le_refl _) hri
      exact ⟨k + 1, D2, ⟨D', true, c1, .inr ⟨rfl, r1⟩⟩, r2, r3⟩

/-- The passes end, and the chains are the dominators. -/
theorem chk (hc : Ctx n ns preds f at_ E) : ∃ k D, DomR preds f ns k ((0 : Int) :: List.replicate (n - 1) (-1)) D ∧ WF n ns at_ D ∧ (∀ x ∈ 0 :: ns, IsSet D x) ∧ ∀ x ∈ 0 :: ns, ∀ z, Anc D x z ↔ Dom E z x := by
  have hn : 0 < n := hc.lt 0 (by simp)
  have h0 : WF n ns at_ ((0 : Int) :: List.replicate (n - 1) (-1)) := by
    have hD0 : ∀ (y : Nat) (w : Int), y ≠ 0 → ((0 : Int) :: List.replicate (n - 1) (-1))[y]? = some w → w = -1 := by
      intro y w hy
      cases y with
      | zero => exact absurd rfl hy
      | succ y =>
        rw [List.getElem?_cons_succ, List.getElem?_replicate]
        split
        · intro e; exact (Option.some.inj e).symm
        · simp
    refine ⟨by simp; omega, rfl, fun x y hx hy => ?_, fun x v hv => ?_, fun x hx => ?_⟩
    · have := hD0 x _ hx hy; omega
    · by_cases e : x = 0
      · subst e; exact .inr ⟨0, by simpa using hv.symm⟩
      · exact .inl (hD0 x v e hv)
    · by_cases e : x = 0
      · simp [e]
      · obtain ⟨y, hy⟩ := hx; have := hD0 x _ e hy; omega
  obtain ⟨D', ch, c1, c2, c3, c4, c5, c6, c7⟩ := pass_ok hc ns _ false h0 (fun v hv => hv) hc.sorted (by
      intro x hx hm
      rcases List.mem_cons.1 hx with rfl | hx
      · exact ⟨h0.set0, fun v hv => by rw [hc.z]; exact hc.pos v hv⟩
      · exact absurd hx hm)
  have h1 := first_round hc c2 c5 c4
  have hfin : ∃ k D, DomR preds f ns k ((0 : Int) :: List.replicate (n - 1) (-1)) D ∧ RI n ns at_ E D ∧ PassOk ns at_ E n ns D D := by
    cases ch with
    | false =>
      obtain ⟨_, rfl⟩ := c6 rfl
      exact ⟨1, _, ⟨_, false, c1, .inl ⟨rfl, rfl⟩⟩, h1, c4⟩
    | true =>
      obtain ⟨k, D, r1, r2, r3⟩ := rounds_end hc _ D' (Nat.le_refl _) h1
      exact ⟨k + 1, D, ⟨D', true, c1, .inr ⟨rfl, r1⟩⟩, r2, r3⟩
  obtain ⟨k, D, r1, r2, r3⟩ := hfin
  refine ⟨k, D, r1, r2.wf, r2.all, fun x hx z => ⟨fun ha => ?_, r2.S x hx z⟩⟩
  have key : ∀ {y : Nat}, Walk E (· ≠ z) 0 y → y ∈ 0 :: ns ∧ ¬ Anc D y z := by
    intro y hw
    induction hw with
    | refl h => exact ⟨by simp, fun ha => h (r2.wf.anc0 ha).symm⟩
    | @snoc b c _ h2 h3 ih =>
      have hco := (hc.eo _ _ h2).2
      refine ⟨hco, fun ha => ?_⟩
      rcases List.mem_cons.1 hco with rfl | hcn
      · exact h3 (r2.wf.anc0 ha).symm
      · obtain ⟨E1, dn, e1, e2, e3, e4, e5, e6, e7⟩ := r3 c hcn
        have heq : ∀ y ∈ 0 :: ns, E1[y]? = D[y]? := fun y hy => by
          by_cases hl : at_ y < at_ c
          · exact e2 y hy hl
          · exact e3 y (by omega)
        have hbo := (hc.eo _ _ h2).1
        have hbs : IsSet E1 b := by obtain ⟨y, hy⟩ := r2.all b hbo; exact ⟨y, by rw [heq b hbo]; exact hy⟩
        have h5 : Anc D dn z := by
          cases ha with
          | refl _ => exact absurd rfl h3
          | @step _ w _ h6 h7 =>
            rw [e4] at h6
            have : dn = w := by have := Option.some.inj h6; omega
            subst this; exact h7
        have h8 := (e7 z).1 (anc_congr r2.wf h5 (r2.all dn (e1.sub dn e6)) (fun y hy _ => (heq y hy).symm)) b h2 hbs
        exact ih.2 (anc_congr e1 h8 hbs (fun y hy _ => heq y hy))
  exact fun hw => (key hw).2 ha
end
end Go.Proofs.Ytojclalkfhoooaa

/-
  Plain mathematics: the order of a graph, positions, predecessors; the immediate dominators exist.
-/
namespace Go.Proofs.Ytojclalkfhoooaa

def GE (g : List (List Nat)) (u s : Nat) : Prop := s ∈ succ g u
/-- Edges from reachable nodes. -/
def RE (g : List (List Nat)) (u s : Nat) : Prop := Reach (GE g) u ∧ s ∈ succ g u
def posOf (ord : List Nat) (x : Nat) : Nat := (atF ord ord.length (x : Int)).toNat

theorem atF_get {ord : List Nat} (hn : ord.Nodup) {i x : Nat} (hi : ord[i]? = some x) : ∀ (m : Nat), i < m → m ≤ ord.length → atF ord m (x : Int) = (i : Int)
  | 0, h, _ => by omega
  | m + 1, h, hm => by
    unfold atF
    have hil := (List.getElem?_eq_some_iff.1 hi).1
    have hx := (List.getElem?_eq_some_iff.1 hi).2
    have e : ord.getD m 0 = ord[m]'(by omega) := by rw [List.getD_eq_getElem?_getD, List.getElem?_eq_getElem (by omega)]; rfl
    rw [e]
    by_cases hmi : m = i
    · subst hmi; rw [hx, if_pos rfl]
    · rw [if_neg (by
        intro he
        have he' : x = ord[m]'(by omega) := by omega
        exact hmi ((List.getElem_inj (h₀ := by omega) (h₁ := hil) hn).1 (he'.symm.trans hx.symm)))]
      exact atF_get hn hi m (by omega) (by omega)
theorem posOf_get {ord : List Nat} (hn : ord.Nodup) {i x : Nat} (hi : ord[i]? = some x) : posOf ord x = i := by
  unfold posOf
  rw [atF_get hn hi _ (List.getElem?_eq_some_iff.1 hi).1 (Nat.le_refl _)]
  simp
theorem posOf_f {ord : List Nat} (hn : ord.Nodup) {x : Nat} (hx : x ∈ ord) : atF ord ord.length (x : Int) = (posOf ord x : Int) := by
  obtain ⟨i, hi⟩ := List.getElem?_of_mem hx
  rw [posOf_get hn hi, atF_get hn hi _ (List.getElem?_eq_some_iff.1 hi).1 (Nat.le_refl _)]
theorem posOf_pw {ord : List Nat} (hn : ord.Nodup) : ord.Pairwise (fun a b => posOf ord a < posOf ord b) := by
  rw [List.pairwise_iff_getElem]
  intro i j hi hj hij
  rw [posOf_get hn (List.getElem?_eq_getElem hi), posOf_get hn (List.getElem?_eq_getElem hj)]
  exact hij
theorem posOf_sub {ord : List Nat} (hn : ord.Nodup) {a b : Nat} (h : [a, b].Sublist ord) : posOf ord a < posOf ord b := by
  have := (posOf_pw hn).sublist h
  simpa using this
theorem posOf_inj {ord : List Nat} (hn : ord.Nodup) {a b : Nat} (ha : a ∈ ord) (hb : b ∈ ord) (h : posOf ord a = posOf ord b) : a = b := by
  obtain ⟨i, hi⟩ := List.getElem?_of_mem ha
  obtain ⟨j, hj⟩ := List.getElem?_of_mem hb
  rw [posOf_get hn hi, posOf_get hn hj] at h
  subst h
  rw [hi] at hj
  exact Option.some.inj hj

theorem addEdge_mem {P : List (List Nat)} {n s v : Nat} (hv : v < P.length) (p : Nat) : p ∈ (addEdge n P s).getD v [] ↔ p ∈ P.getD v [] ∨ (p = n ∧ v = s) := by
  unfold addEdge
  rw [List.getD_eq_getElem?_getD, List.getElem?_set]
  by_cases e : s = v
  · subst e
    rw [if_pos rfl, if_pos hv]
    simp
  · rw [if_neg e, ← List.getD_eq_getElem?_getD]
    simp [Ne.symm e]
theorem addEdge_length (n : Nat) (P : List (List Nat)) (s : Nat) : (addEdge n P s).length = P.length := by simp [addEdge]
theorem adds_mem (n : Nat) : ∀ (l : List Nat) (P : List (List Nat)) (v : Nat), v < P.length → ∀ p, p ∈ (l.foldl (addEdge n) P).getD v [] ↔ p ∈ P.getD v [] ∨ (p = n ∧ v ∈ l)
  | [], P, v, _, p => by simp
  | s :: l, P, v, hv, p => by
    rw [List.foldl_cons, adds_mem n l _ v (by rw [addEdge_length]; exact hv), addEdge_mem hv]
    simp only [List.mem_cons]
    constructor
    · rintro ((h | ⟨h1, h2⟩) | ⟨h1, h2⟩)
      · exact .inl h
      · exact .inr ⟨h1, .inl h2⟩
      · exact .inr ⟨h1, .inr h2⟩
    · rintro (h | ⟨h1, h2 | h2⟩)
      · exact .inl (.inl h)
      · exact .inl (.inr ⟨h1, h2⟩)
      · exact .inr ⟨h1, h2⟩
theorem adds_length (n : Nat) : ∀ (l : List Nat) (P : List (List Nat)), (l.foldl (addEdge n) P).length = P.length
  | [], _ => rfl
  | s :: l, P => by rw [List.foldl_cons, adds_length n l, addEdge_length]
theorem addsAll_mem (g : List (List Nat)) : ∀ (ord : List Nat) (P : List (List Nat)) (v : Nat), v < P.length → ∀ p, p ∈ (ord.foldl (addEdges g) P).getD v [] ↔ p ∈ P.getD v [] ∨ (p ∈ ord ∧ v ∈ succ g p)
  | [], P, v, _, p => by simp
  | n :: ord, P, v, hv, p => by
    rw [List.foldl_cons, addsAll_mem g ord _ v (by unfold addEdges; rw [adds_length]; exact hv)]
    unfold addEdges
    rw [adds_mem n _ P v hv]
    simp only [List.mem_cons]
    constructor
    · rintro ((h | ⟨h1, h2⟩) | ⟨h1, h2⟩)
      · exact .inl h
      · subst h1; exact .inr ⟨.inl rfl, h2⟩
      · exact .inr ⟨.inr h1, h2⟩
    · rintro (h | ⟨h1 | h1, h2⟩)
      · exact .inl (.inl h)
      · subst h1; exact .inl (.inr ⟨rfl, h2⟩)
      · exact .inr ⟨h1, h2⟩
theorem predsLen (g : List (List Nat)) (ord : List Nat) : (predsL g ord).length = g.length := by
  have : ∀ (ord : List Nat) (P : List (List Nat)), (ord.foldl (addEdges g) P).length = P.length := by
    intro ord
    induction ord with
    | nil => intros; rfl
    | cons a l ih => intro P; rw [List.foldl_cons, ih]; unfold addEdges; rw [adds_length]
  unfold predsL; rw [this]; simp
theorem predsL_mem {g : List (List Nat)} {ord : List Nat} {v : Nat} {pr : List Nat} (h : (predsL g ord)[v]? = some pr) (p : Nat) : p ∈ pr ↔ p ∈ ord ∧ v ∈ succ g p := by
  have hv := (List.getElem?_eq_some_iff.1 h).1
  rw [predsLen] at hv
  have := addsAll_mem g ord (List.replicate g.length []) v (by simpa using hv) p
  have e : (List.foldl (addEdges g) (List.replicate g.length []) ord).getD v [] = pr := by
    rw [List.getD_eq_getElem?_getD]; unfold predsL at h; rw [h]; rfl
  rw [e] at this
  rw [this]
  simp [List.getD_eq_getElem?_getD, List.getElem?_replicate]
  intro h1
  split at h1 <;> simp at h1

/-- The order of a graph. -/
structure OrdF (g : List (List Nat)) (ns : List Nat) : Prop where
  is : IsOrder g (0 :: ns)
  eq : orderL g = 0 :: ns
  nodup : (0 :: ns).Nodup
  lt : ∀ x ∈ 0 :: ns, x < g.length
  mem : ∀ x, x ∈ 0 :: ns ↔ Reach (GE g) x
  fwd : ∀ x ∈ ns, ∃ p, RE g p x ∧ posOf (0 :: ns) p < posOf (0 :: ns) x
  back : ∀ x s, RE g x s → posOf (0 :: ns) x < posOf (0 :: ns) s ∨ Desc g (postL g) s x
  sub : ∀ a b, [a, b].Sublist (postL g) → posOf (0 :: ns) b < posOf (0 :: ns) a

theorem ordF {g : List (List Nat)} (hv : ValidG g) : ∃ ns, OrdF g ns := by
  obtain ⟨L, h1, h2, h3, k, hk⟩ := post_ok hv
  have he : orderL g = 0 :: L.reverse := by unfold orderL; rw [h1]; simp
  have hr : (0 :: L.reverse).reverse = postL g := by rw [h1]; simp
  have hnd : (0 :: L.reverse).Nodup := by rw [← he]; unfold orderL; exact List.pairwise_reverse.2 (h2.imp (fun h => Ne.symm h))
  have hmm : ∀ x, x ∈ 0 :: L.reverse ↔ x ∈ postL g := fun x => by rw [← hr]; exact List.mem_reverse.symm
  have hsub : ∀ a b, [a, b].Sublist (postL g) → posOf (0 :: L.reverse) b < posOf (0 :: L.reverse) a := by
    intro a b hab
    refine posOf_sub hnd ?_
    have := List.reverse_sublist.2 hab
    rw [← he]
    simpa [orderL] using this
  have hdr : ∀ {a x : Nat}, Desc g (postL g) a x → Walk (GE g) (fun _ => True) 0 a → Walk (GE g) (fun _ => True) 0 x := by
    intro a x hd
    induction hd with
    | refl a => exact id
    | step h4 _ _ ih => exact fun hw => ih (.snoc hw h4 trivial)
  have hmem : ∀ x, x ∈ 0 :: L.reverse ↔ Reach (GE g) x := by
    intro x
    rw [hmm]
    constructor
    · exact fun hx => hdr (h3 x hx).2.1 (.refl trivial)
    · intro hw
      unfold Reach at hw
      induction hw with
      | refl _ => rw [h1]; simp
      | snoc _ h4 _ ih => exact ((h3 _ ih).2.2 _ h4).1
  refine ⟨L.reverse, ⟨⟨k, by rw [hr]; exact hk⟩, he, hnd, fun x hx => (h3 x ((hmm x).1 hx)).1, hmem, fun x hx => ?_, fun x s hxs => ?_, hsub⟩⟩
  · have hx0 : x ≠ 0 := by rintro rfl; exact (List.nodup_cons.1 hnd).1 hx
    rcases (h3 x ((hmm x).1 (by simp [hx]))).2.1.last with h4 | ⟨p, h4, h5, h6⟩
    · exact absurd h4.symm hx0
    · exact ⟨p, ⟨hdr h4 (.refl trivial), h5⟩, hsub x p h6⟩
  · rcases ((h3 x ((hmm x).1 ((hmem x).2 hxs.1))).2.2 s hxs.2).2 with h4 | h4
    · exact .inl (hsub s x h4)
    · exact .inr h4

theorem OrdF.ctx {g : List (List Nat)} {ns : List Nat} (h : OrdF g ns) : Ctx g.length ns (predsL g (0 :: ns)) (atF (0 :: ns) (ns.length + 1)) (posOf (0 :: ns)) (RE g) := by
  have h0 : posOf (0 :: ns) 0 = 0 := posOf_get h.nodup (i := 0) rfl
  have hpw := List.pairwise_cons.1 (posOf_pw h.nodup)
  refine ⟨h.lt, h0, hpw.2, fun x hx => by have := hpw.1 x hx; omega, fun x hx y hy => posOf_inj h.nodup hx hy, fun x hx => posOf_f h.nodup hx, predsLen _ _, fun v pr hpr p => ?_, fun u s hus => ⟨(h.mem u).2 hus.1, (h.mem s).2 (.snoc hus.1 hus.2 trivial)⟩, h.fwd⟩
  rw [predsL_mem hpr, h.mem]; rfl

/-- The immediate dominators of a graph. -/
structure DomF (g : List (List Nat)) (ns : List Nat) (D : List Int) : Prop where
  of : DomOf g ns D
  wf : WF g.length ns (posOf (0 :: ns)) D
  all : ∀ x ∈ 0 :: ns, IsSet D x
  anc : ∀ x ∈ 0 :: ns, ∀ z, Anc D x z ↔ Dom (GE g) z x
theorem re_dom {g : List (List Nat)} {z x : Nat} : Dom (RE g) z x ↔ Dom (GE g) z x := by
  have h1 : ∀ {y : Nat}, Walk (GE g) (· ≠ z) 0 y → Walk (RE g) (· ≠ z) 0 y := by
    intro y hw
    induction hw with
    | refl h => exact .refl h
    | snoc h1 h2 h3 ih => exact .snoc ih ⟨h1.imp (fun _ _ => trivial), h2⟩ h3
  exact ⟨fun h hw => h (h1 hw), fun h hw => h (hw.mono (fun _ _ _ _ h => h.2) (fun _ h => h)).2⟩
theorem OrdF.dom {g : List (List Nat)} {ns : List Nat} (h : OrdF g ns) : ∃ D, DomF g ns D := by
  obtain ⟨k, D, h1, h2, h3, h4⟩ := chk h.ctx
  exact ⟨D, ⟨k, h1⟩, h2, h3, fun x hx z => (h4 x hx z).trans re_dom⟩
end Go.Proofs.Ytojclalkfhoooaa

/-
  Plain mathematics: what the reference's From computes; dominance as a computation.
-/
namespace Go.Proofs.Ytojclalkfhoooaa

theorem sget {l : List Bool} {x : Nat} (h : x < l.length) : l[x]? = some true ∨ l[x]? = some false := by
  rw [List.getElem?_eq_getElem h]; cases l[x] <;> simp
theorem push_all (out : Int) : ∀ (l : List Nat) (st : List Bool × List Nat), (∀ s ∈ l, s < st.1.length) →
    (l.foldl (push1 out) st).1.length = st.1.length ∧ (∀ x : Nat, (l.foldl (push1 out) st).1[x]? = some true ↔ st.1[x]? = some true ∨ (x ∈ l ∧ (x : Int) ≠ out)) ∧
    (∀ y : Nat, y ∈ (l.foldl (push1 out) st).2 ↔ y ∈ st.2 ∨ (y ∈ l ∧ (y : Int) ≠ out ∧ st.1[y]? = some false)) ∧ (l.foldl (push1 out) st).2.length + whites (l.foldl (push1 out) st).1 = st.2.length + whites st.1
  | [], st, _ => ⟨rfl, fun x => by simp, fun y => by simp, rfl⟩
  | s :: l, st, hl => by
    have hsl := hl s (by simp)
    rw [List.foldl_cons]
    by_cases h : (s : Int) ≠ out ∧ st.1[s]? = some false
    · have e : push1 out st s = (st.1.set s true, st.2 ++ [s]) := by unfold push1; rw [if_pos h]
      rw [e]
      obtain ⟨h1, h2, h3, h4⟩ := push_all out l (st.1.set s true, st.2 ++ [s]) (fun t ht => by simpa using hl t (by simp [ht]))
      dsimp only at h1 h2 h3 h4
      have hw := whites_set h.2
      refine ⟨by rw [h1]; simp, fun x => ?_, fun y => ?_, by rw [h4]; simp; omega⟩
      · rw [h2, List.getElem?_set]
        by_cases hx : s = x
        · subst hx; rw [if_pos rfl, if_pos hsl]; simp [h.1]
        · rw [if_neg hx]
          constructor
          · rintro (h5 | ⟨h5, h6⟩)
            · exact .inl h5
            · exact .inr ⟨by simp [h5], h6⟩
          · rintro (h5 | ⟨h5, h6⟩)
            · exact .inl h5
            · rcases List.mem_cons.1 h5 with h5 | h5
              · exact absurd h5.symm hx
              · exact .inr ⟨h5, h6⟩
      · rw [h3, List.mem_append, List.mem_singleton, List.getElem?_set]
        by_cases hy : s = y
        · subst hy; rw [if_pos rfl, if_pos hsl]; simp [h.1, h.2]
        · rw [if_neg hy]
          constructor
          · rintro ((h5 | h5) | ⟨h5, h6⟩)
            · exact .inl h5
            · exact absurd h5.symm hy
            · exact .inr ⟨by simp [h5], h6⟩
          · rintro (h5 | ⟨h5, h6⟩)
            · exact .inl (.inl h5)
            · rcases List.mem_cons.1 h5 with h5 | h5
              · exact absurd h5.symm hy
              · exact .inr ⟨h5, h6⟩
    · have e : push1 out st s = st := by unfold push1; rw [if_neg h]
      rw [e]
      obtain ⟨h1, h2, h3, h4⟩ := push_all out l st (fun t ht => hl t (by simp [ht]))
      have hs : (s : Int) ≠ out → st.1[s]? = some true := fun ho => (sget hsl).resolve_right (fun hf => h ⟨ho, hf⟩)
      refine ⟨h1, fun x => ?_, fun y => ?_, h4⟩
      · rw [h2]
        constructor
        · rintro (h5 | ⟨h5, h6⟩)
          · exact .inl h5
          · exact .inr ⟨by simp [h5], h6⟩
        · rintro (h5 | ⟨h5, h6⟩)
          · exact .inl h5
          · rcases List.mem_cons.1 h5 with rfl | h5
            · exact .inl (hs h6)
            · exact .inr ⟨h5, h6⟩
      · rw [h3]
        constructor
        · rintro (h5 | ⟨h5, h6⟩)
          · exact .inl h5
          · exact .inr ⟨by simp [h5], h6⟩
        · rintro (h5 | ⟨h5, h6, h7⟩)
          · exact .inl h5
          · rcases List.mem_cons.1 h5 with rfl | h5
            · exact absurd ⟨h6, h7⟩ h
            · exact .inr ⟨h5, h6, h7⟩

/-- The work list with fuel. -/
def fromRun (g : List (List Nat)) (out : Int) : Nat → List Bool → List Nat → List Bool
  | 0, seen, _ => seen
  | f + 1, seen, work => match work.getLast? with
    | none => seen
    | some n => fromRun g out f ((succ g n).foldl (push1 out) (seen, work.dropLast)).1 ((succ g n).foldl (push1 out) (seen, work.dropLast)).2
def fromL (g : List (List Nat)) (fr : Nat) (out : Int) : List Bool :=
  if (fr : Int) = out then List.replicate g.length false else fromRun g out (g.length + 1) ((List.replicate g.length false).set fr true) [fr]

theorem fromRun_ok {g : List (List Nat)} (hv : ValidG g) (out : Int) : ∀ (f : Nat) (seen : List Bool) (work : List Nat), seen.length = g.length → work.length + whites seen ≤ f → ∃ k, FromR g out k seen work (fromRun g out f seen work)
  | 0, seen, work, _, h => ⟨0, List.eq_nil_of_length_eq_zero (by omega), rfl⟩
  | f + 1, seen, work, hs, h => by
    rcases List.eq_nil_or_concat work with rfl | ⟨st, n, rfl⟩
    · exact ⟨0, rfl, rfl⟩
    · obtain ⟨h1, _, _, h4⟩ := push_all out (succ g n) (seen, st) (fun s hm => by rw [hs]; exact succ_lt hv hm)
      simp only [List.concat_eq_append, List.length_append, List.length_singleton] at h h1 h4
      obtain ⟨k, hk⟩ := fromRun_ok hv out f ((succ g n).foldl (push1 out) (seen, st)).1 ((succ g n).foldl (push1 out) (seen, st)).2 (h1.trans hs) (by omega)
      refine ⟨k + 1, st, n, by simp, ?_⟩
      have e : fromRun g out (f + 1) seen (st.concat n) = fromRun g out f ((succ g n).foldl (push1 out) (seen, st)).1 ((succ g n).foldl (push1 out) (seen, st)).2 := by
        simp [fromRun]
      rw [e]
      exact hk
theorem fromL_of {g : List (List Nat)} (hv : ValidG g) (fr : Nat) (hfr : fr < g.length) (out : Int) : FromOf g fr out (fromL g fr out) := by
  unfold FromOf fromL
  by_cases h : (fr : Int) = out
  · rw [if_pos h]; exact .inl ⟨h, rfl⟩
  · rw [if_neg h]
    have hw := whites_set (seen := List.replicate g.length false) (n := fr) (by simp [hfr])
    have h0 : whites (List.replicate g.length false) = g.length := by simp [whites]
    exact .inr ⟨h, fromRun_ok hv out _ _ _ (by simp) (by simp only [List.length_singleton]; omega)⟩

theorem fromR_char {g : List (List Nat)} (hv : ValidG g) (out : Int) (fr : Nat) : ∀ (k : Nat) (seen : List Bool) (work : List Nat) (F : List Bool), FromR g out k seen work F → seen.length = g.length →
    (∀ x ∈ work, seen[x]? = some true) → (∀ x : Nat, seen[x]? = some true → Walk (GE g) (fun y => (y : Int) ≠ out) fr x) → (∀ x s : Nat, seen[x]? = some true → x ∉ work → s ∈ succ g x → (s : Int) ≠ out → seen[s]? = some true) → seen[fr]? = some true →
    F.length = g.length ∧ ∀ x : Nat, F[x]? = some true ↔ Walk (GE g) (fun y => (y : Int) ≠ out) fr x
  | 0, seen, work, F, h, hlen, h1, h2, h3, h4 => by
    obtain ⟨rfl, rfl⟩ := h
    refine ⟨hlen, fun x => ⟨h2 x, fun hw => ?_⟩⟩
    induction hw with
    | refl _ => exact h4
    | snoc _ h5 h6 ih => exact h3 _ _ ih (by simp) h5 h6
  | k + 1, seen, work, F, h, hlen, h1, h2, h3, h4 => by
    obtain ⟨st, n, rfl, h⟩ := h
    obtain ⟨p1, p2, p3, _⟩ := push_all out (succ g n) (seen, st) (fun s hm => by rw [hlen]; exact succ_lt hv hm)
    dsimp only at p1 p2 p3
    refine fromR_char hv out fr k _ _ F h (p1.trans hlen) ?_ ?_ ?_ ((p2 fr).2 (.inl h4))
    · intro x hx
      rcases (p3 x).1 hx with h5 | ⟨h5, h6, _⟩
      · exact (p2 x).2 (.inl (h1 x (by simp [h5])))
      · exact (p2 x).2 (.inr ⟨h5, h6⟩)
    · intro x hx
      rcases (p2 x).1 hx with h5 | ⟨h5, h6⟩
      · exact h2 x h5
      · exact .snoc (h2 n (h1 n (by simp))) h5 h6
    · intro x s hx hxw hs ho
      rcases (p2 x).1 hx with h5 | ⟨h5, h6⟩
      · by_cases hm : x ∈ st ++ [n]
        · rcases List.mem_append.1 hm with hm | hm
          · exact absurd ((p3 x).2 (.inl hm)) hxw
          · simp at hm; subst hm
            exact (p2 s).2 (.inr ⟨hs, ho⟩)
        · exact (p2 s).2 (.inl (h3 x s h5 hm hs ho))
      · rcases sget (l := seen) (x := x) (by rw [hlen]; exact succ_lt hv h5) with h7 | h7
        · by_cases hm : x ∈ st ++ [n]
          · rcases List.mem_append.1 hm with hm | hm
            · exact absurd ((p3 x).2 (.inl hm)) hxw
            · simp at hm; subst hm
              exact (p2 s).2 (.inr ⟨hs, ho⟩)
          · exact (p2 s).2 (.inl (h3 x s h7 hm hs ho))
        · exact absurd ((p3 x).2 (.inr ⟨h5, h6, h7⟩)) hxw

theorem fromOf_char {g : List (List Nat)} (hv : ValidG g) {fr : Nat} (hfr : fr < g.length) {out : Int} {F : List Bool} (h : FromOf g fr out F) :
    F.length = g.length ∧ ∀ x : Nat, F[x]? = some true ↔ Walk (GE g) (fun y => (y : Int) ≠ out) fr x := by
  rcases h with ⟨h1, rfl⟩ | ⟨h1, k, hk⟩
  · refine ⟨by simp, fun x => ⟨fun h2 => ?_, fun h2 => absurd h1 h2.first⟩⟩
    rw [List.getElem?_replicate] at h2
    split at h2 <;> simp at h2
  · refine fromR_char hv out fr k _ _ F hk (by simp) (fun x hx => by simp at hx; subst hx; simp [hfr]) (fun x hx => ?_) (fun x s hx hxw => ?_) (by simp [hfr])
    · by_cases e : fr = x
      · subst e; exact .refl h1
      · rw [List.getElem?_set_ne e, List.getElem?_replicate] at hx
        split at hx <;> simp at hx
    · have e : fr ≠ x := fun e => hxw (by simp [e])
      rw [List.getElem?_set_ne e, List.getElem?_replicate] at hx
      split at hx <;> simp at hx
theorem bool_ext {F F' : List Bool} (hl : F.length = F'.length) (h : ∀ x : Nat, F[x]? = some true ↔ F'[x]? = some true) : F = F' := by
  apply List.ext_getElem?
  intro i
  by_cases hi : i < F.length
  · rcases sget hi with h1 | h1 <;> rcases sget (l := F') (x := i) (by omega) with h2 | h2
    · rw [h1, h2]
    · rw [(h i).1 h1] at h2; simp at h2
    · rw [(h i).2 h2] at h1; simp at h1
    · rw [h1, h2]
  · rw [List.getElem?_eq_none (by omega), List.getElem?_eq_none (by omega)]
theorem fromOf_eq {g : List (List Nat)} (hv : ValidG g) {fr : Nat} (hfr : fr < g.length) {out : Int} {F : List Bool} (h : FromOf g fr out F) : F = fromL g fr out := by
  have h1 := fromOf_char hv hfr h
  have h2 := fromOf_char hv hfr (fromL_of hv fr hfr out)
  exact bool_ext (h1.1.trans h2.1.symm) (fun x => (h1.2 x).trans (h2.2 x).symm)
theorem fromL_len {g : List (List Nat)} (hv : ValidG g) {fr : Nat} (hfr : fr < g.length) (out : Int) : (fromL g fr out).length = g.length := (fromOf_char hv hfr (fromL_of hv fr hfr out)).1
/-- Whether there is a path from fr to x without out. -/
def fromB (g : List (List Nat)) (fr : Nat) (out : Int) (x : Nat) : Bool := (fromL g fr out).getD x false
theorem fromB_iff {g : List (List Nat)} (hv : ValidG g) {fr : Nat} (hfr : fr < g.length) (out : Int) (x : Nat) : fromB g fr out x = true ↔ Walk (GE g) (fun y => (y : Int) ≠ out) fr x := by
  rw [← (fromOf_char hv hfr (fromL_of hv fr hfr out)).2]
  unfold fromB
  rw [List.getD_eq_getElem?_getD]
  cases (fromL g fr out)[x]? with
  | none => simp
  | some b => cases b <;> simp

/-- d dominates x (both reachable). -/
def domsB (g : List (List Nat)) (d x : Nat) : Bool := fromB g 0 (-1) d && fromB g 0 (-1) x && (decide (d = x) || !fromB g 0 d x)
theorem allB_iff {g : List (List Nat)} (hv : ValidG g) (x : Nat) : fromB g 0 (-1) x = true ↔ Reach (GE g) x := by
  rw [fromB_iff hv hv.1]
  exact ⟨fun h => h.imp (fun _ _ => trivial), fun h => h.imp (fun a _ => by omega)⟩
theorem domsB_iff {g : List (List Nat)} (hv : ValidG g) (d x : Nat) : domsB g d x = true ↔ Reach (GE g) d ∧ Reach (GE g) x ∧ Dom (GE g) d x := by
  unfold domsB
  rw [Bool.and_eq_true, Bool.and_eq_true, allB_iff hv, allB_iff hv, Bool.or_eq_true, decide_eq_true_eq, Bool.not_eq_true']
  have h1 : fromB g 0 (d : Int) x = false ↔ Dom (GE g) d x := by
    unfold Dom
    rw [← Bool.not_eq_true, fromB_iff hv hv.1]
    exact not_congr ⟨fun h => h.imp (fun a h => by omega), fun h => h.imp (fun a h => by omega)⟩
  rw [h1]
  constructor
  · rintro ⟨⟨h2, h3⟩, rfl | h4⟩
    · exact ⟨h2, h3, dom_refl _ _⟩
    · exact ⟨h2, h3, h4⟩
  · exact fun ⟨h2, h3, h4⟩ => ⟨⟨h2, h3⟩, .inr h4⟩
end Go.Proofs.Ytojclalkfhoooaa

/-
  Plain mathematics: the immediate dominators, as the reference computes them.
-/
namespace Go.Proofs.Ytojclalkfhoooaa

/-- One candidate. -/
def best1 (g : List (List Nat)) (x : Nat) (best : Int) (d : Nat) : Int := if d ≠ x ∧ domsB g d x = true ∧ (best < 0 ∨ domsB g best.toNat d = true) then (d : Int) else best
def idomAt (g : List (List Nat)) (x : Nat) : Int := (List.range g.length).foldl (best1 g x) (-1)
def idomL (g : List (List Nat)) : List Int := (List.range g.length).map (idomAt g)

theorem anc_lin {D : List Int} {x a b : Nat} (ha : Anc D x a) (hb : Anc D x b) : Anc D a b ∨ Anc D b a := by
  induction ha with
  | refl _ => exact .inl hb
  | @step x y a h1 h2 ih =>
    cases hb with
    | refl _ => exact .inr (.step h1 h2)
    | @step _ w _ h3 h4 =>
      rw [h1] at h3
      have : y = w := by have := Option.some.inj h3; omega
      subst this
      exact ih h4
theorem DomF.dom_lin {g : List (List Nat)} {ns : List Nat} {D : List Int} (hD : DomF g ns D) {x a b : Nat} (hx : x ∈ 0 :: ns) (ha : Dom (GE g) a x) (hb : Dom (GE g) b x) : Dom (GE g) a b ∨ Dom (GE g) b a := by
  have ha' := (hD.anc x hx a).2 ha
  have hb' := (hD.anc x hx b).2 hb
  have hao := hD.wf.sub a (hD.wf.anc_le ha' (hD.all x hx)).2
  have hbo := hD.wf.sub b (hD.wf.anc_le hb' (hD.all x hx)).2
  rcases anc_lin ha' hb' with h | h
  · exact .inr ((hD.anc a hao b).1 h)
  · exact .inl ((hD.anc b hbo a).1 h)
theorem DomF.dom_mem {g : List (List Nat)} {ns : List Nat} {D : List Int} (hD : DomF g ns D) {x a : Nat} (hx : x ∈ 0 :: ns) (ha : Dom (GE g) a x) : a ∈ 0 :: ns ∧ posOf (0 :: ns) a ≤ posOf (0 :: ns) x := by
  have ha' := (hD.anc x hx a).2 ha
  exact ⟨hD.wf.sub a (hD.wf.anc_le ha' (hD.all x hx)).2, hD.wf.le ha' (hD.all x hx)⟩

theorem best_fold {g : List (List Nat)} (hv : ValidG g) {ns : List Nat} {D : List Int} (hO : OrdF g ns) (hD : DomF g ns D) (x : Nat) : ∀ (m : Nat),
    ((List.range m).foldl (best1 g x) (-1) = -1 ∧ ∀ d < m, ¬ (d ≠ x ∧ domsB g d x = true)) ∨
    ∃ b : Nat, (List.range m).foldl (best1 g x) (-1) = (b : Int) ∧ b ≠ x ∧ domsB g b x = true ∧ ∀ d < m, d ≠ x → domsB g d x = true → Dom (GE g) d b
  | 0 => .inl ⟨rfl, fun d hd => by omega⟩
  | m + 1 => by
    rw [List.range_succ, List.foldl_append, List.foldl_cons, List.foldl_nil]
    rcases best_fold hv hO hD x m with ⟨h1, h2⟩ | ⟨b, h1, h2, h3, h4⟩
    · rw [h1]
      by_cases hm : m ≠ x ∧ domsB g m x = true
      · refine .inr ⟨m, by unfold best1; rw [if_pos ⟨hm.1, hm.2, .inl (by omega)⟩], hm.1, hm.2, fun d hd hdx hdd => ?_⟩
        by_cases e : d = m
        · subst e; exact dom_refl _ _
        · exact absurd ⟨hdx, hdd⟩ (h2 d (by omega))
      · refine .inl ⟨by unfold best1; rw [if_neg (fun h => hm ⟨h.1, h.2.1⟩)], fun d hd => ?_⟩
        by_cases e : d = m
        · subst e; exact hm
        · exact h2 d (by omega)
    · rw [h1]
      have hb := (domsB_iff hv b x).1 h3
      have hx : x ∈ 0 :: ns := (hO.mem x).2 hb.2.1
      by_cases hm : m ≠ x ∧ domsB g m x = true
      · have hm2 := (domsB_iff hv m x).1 hm.2
        by_cases hbm : domsB g b m = true
        · have hbm2 := (domsB_iff hv b m).1 hbm
          refine .inr ⟨m, by unfold best1; rw [if_pos ⟨hm.1, hm.2, .inr (by simpa using hbm)⟩], hm.1, hm.2, fun d hd hdx hdd => ?_⟩
          by_cases e : d = m
          · subst e; exact dom_refl _ _
          · exact dom_trans (h4 d (by omega) hdx hdd) hbm2.2.2
        · refine .inr ⟨b, by unfold best1; rw [if_neg (fun h => by rcases h.2.2 with h | h; omega; exact hbm (by simpa using h))], h2, h3, fun d hd hdx hdd => ?_⟩
          by_cases e : d = m
          · subst e
            rcases hD.dom_lin hx hb.2.2 hm2.2.2 with h | h
            · exact absurd ((domsB_iff hv b d).2 ⟨hb.1, hm2.1, h⟩) hbm
            · exact h
          · exact h4 d (by omega) hdx hdd
      · refine .inr ⟨b, by unfold best1; rw [if_neg (fun h => hm ⟨h.1, h.2.1⟩)], h2, h3, fun d hd hdx hdd => ?_⟩
        by_cases e : d = m
        · subst e; exact absurd ⟨hdx, hdd⟩ hm
        · exact h4 d (by omega) hdx hdd

theorem idom_eq {g : List (List Nat)} (hv : ValidG g) {ns : List Nat} {D : List Int} (hO : OrdF g ns) (hD : DomF g ns D) : D.set 0 (-1) = idomL g := by
  apply List.ext_getElem?
  intro x
  by_cases hx : x < g.length
  · have hr : (idomL g)[x]? = some (idomAt g x) := by unfold idomL; rw [List.getElem?_map, List.getElem?_range hx]; rfl
    rw [hr]
    have hdx : x < D.length := by rw [hD.wf.len]; exact hx
    have hf := best_fold hv hO hD x g.length
    by_cases h0 : x = 0
    · subst h0
      rw [List.getElem?_set_self hdx]
      rcases hf with ⟨h1, _⟩ | ⟨b, h1, h2, h3, _⟩
      · exact congrArg some h1.symm
      · exact absurd (dom_of_zero ((domsB_iff hv b 0).1 h3).2.2) h2
    · rw [List.getElem?_set_ne (Ne.symm h0)]
      by_cases hxo : x ∈ 0 :: ns
      · obtain ⟨y, hy⟩ := hD.all x hxo
        obtain ⟨hlt, hys⟩ := hD.wf.up x y h0 hy
        have hyo := hD.wf.sub y hys
        have hyx : y ≠ x := fun e => by rw [e] at hlt; omega
        have hyd : Dom (GE g) y x := (hD.anc x hxo y).1 (.step hy (.refl _))
        have hyB : domsB g y x = true := (domsB_iff hv y x).2 ⟨(hO.mem y).1 hyo, (hO.mem x).1 hxo, hyd⟩
        rcases hf with ⟨_, h2⟩ | ⟨b, h1, h2, h3, h4⟩
        · exact absurd ⟨hyx, hyB⟩ (h2 y (hO.lt y hyo))
        · have hb := (domsB_iff hv b x).1 h3
          have h5 := h4 y (hO.lt y hyo) hyx hyB
          have h6 := (hD.anc x hxo b).2 hb.2.2
          have h7 : Anc D y b := by
            cases h6 with
            | refl _ => exact absurd rfl h2
            | @step _ w _ h8 h9 =>
              rw [hy] at h8
              have : y = w := by have := Option.some.inj h8; omega
              subst this; exact h9
          have h8 := dom_antisymm h5 ((hD.anc y hyo b).1 h7) ((hO.mem y).1 hyo)
          subst h8
          rw [hy]; exact congrArg some h1.symm
      · obtain ⟨w, hw⟩ : ∃ w, D[x]? = some w := ⟨_, List.getElem?_eq_getElem hdx⟩
        rw [hw]
        rcases hD.wf.neg x w hw with rfl | ⟨y, rfl⟩
        · rcases hf with ⟨h1, _⟩ | ⟨b, h1, h2, h3, _⟩
          · exact congrArg some h1.symm
          · exact absurd ((hO.mem x).2 ((domsB_iff hv b x).1 h3).2.1) hxo
        · exact absurd (hD.wf.sub x ⟨y, hw⟩) hxo
  · rw [List.getElem?_eq_none (by simp [hD.wf.len]; omega), List.getElem?_eq_none (by simp [idomL]; omega)]

/-- The edges' test of Reducible. -/
def okB (g : List (List Nat)) (u s : Nat) : Bool := decide (posOf (orderL g) u < posOf (orderL g) s) || domsB g s u
def redF (g : List (List Nat)) : Bool := (orderL g).all fun u => (succ g u).all fun s => okB g u s
theorem edge_ok {g : List (List Nat)} (hv : ValidG g) {ns : List Nat} {D : List Int} (hO : OrdF g ns) (hD : DomF g ns D) {u s : Nat} (hu : u ∈ 0 :: ns) (hs : s ∈ succ g u) : EdgeR D (atF (0 :: ns) (ns.length + 1)) u s (okB g u s) := by
  have hus : Reach (GE g) s := .snoc ((hO.mem u).1 hu) hs trivial
  have hso := (hO.mem s).2 hus
  have hfu := posOf_f hO.nodup hu
  have hfs := posOf_f hO.nodup hso
  unfold EdgeR okB
  rw [hO.eq]
  simp only [List.length_cons] at hfu hfs
  rw [hfu, hfs]
  by_cases h : posOf (0 :: ns) u < posOf (0 :: ns) s
  · exact .inl ⟨by omega, by simp [h]⟩
  · obtain ⟨k, r, h1, h2, h3, h4, h5, h6⟩ := up_ok hO.ctx hD.wf (posOf (0 :: ns) s) _ u (Nat.le_refl _) (hD.all u hu)
    refine .inr ⟨by omega, k, r, h1, ?_⟩
    rw [decide_eq_false h, Bool.false_or, Bool.eq_iff_iff, decide_eq_true_eq, domsB_iff hv]
    constructor
    · rintro ⟨_, _, hd⟩
      have h7 := h6 s ((hD.anc u hu s).2 hd) (Nat.le_refl _)
      have h8 := hD.wf.le h7 h3
      exact posOf_inj hO.nodup (hD.wf.sub r h3) hso (by omega)
    · rintro rfl
      exact ⟨hus, (hO.mem u).1 hu, (hD.anc u hu r).1 h2⟩
theorem up_dom {g : List (List Nat)} (hv : ValidG g) {ns : List Nat} {D : List Int} (hO : OrdF g ns) (hD : DomF g ns D) {u h : Nat} (hu : u ∈ 0 :: ns) (hh : h ∈ 0 :: ns) : ∃ k r, UpN D (atF (0 :: ns) (ns.length + 1)) (atF (0 :: ns) (ns.length + 1) (h : Int)) k u r ∧ domsB g h u = decide (r = h) := by
  have hfh := posOf_f hO.nodup hh
  simp only [List.length_cons] at hfh
  rw [hfh]
  obtain ⟨k, r, h1, h2, h3, h4, h5, h6⟩ := up_ok hO.ctx hD.wf (posOf (0 :: ns) h) _ u (Nat.le_refl _) (hD.all u hu)
  refine ⟨k, r, h1, ?_⟩
  rw [Bool.eq_iff_iff, decide_eq_true_eq, domsB_iff hv]
  constructor
  · rintro ⟨_, _, hd⟩
    have h7 := h6 h ((hD.anc u hu h).2 hd) (Nat.le_refl _)
    have h8 := hD.wf.le h7 h3
    exact posOf_inj hO.nodup (hD.wf.sub r h3) hh (by omega)
  · rintro rfl
    exact ⟨(hO.mem r).1 hh, (hO.mem u).1 hu, (hD.anc u hu r).1 h2⟩
end Go.Proofs.Ytojclalkfhoooaa

/-
  Plain mathematics: the natural loops, as the reference computes them.
-/
namespace Go.Proofs.Ytojclalkfhoooaa

theorem Walk.cons {E : Nat → Nat → Prop} {P : Nat → Prop} {a b c : Nat} (h1 : E a b) (hp : P a) (h : Walk E P b c) : Walk E P a c := by
  induction h with
  | refl h2 => exact .snoc (.refl hp) h1 h2
  | snoc _ h3 h4 ih => exact .snoc ih h3 h4

def whF (f : Int → Bool) (n : Nat) : Nat := whites ((List.range n).map fun x : Nat => f (x : Int))
theorem add_all (n : Nat) : ∀ (l : List Nat) (st : (Int → Bool) × List Nat), (∀ u ∈ l, u < n) →
    (∀ x : Nat, (l.foldl addF st).1 (x : Int) = true ↔ st.1 (x : Int) = true ∨ x ∈ l) ∧ (∀ y : Nat, y ∈ (l.foldl addF st).2 ↔ y ∈ st.2 ∨ (y ∈ l ∧ st.1 (y : Int) = false)) ∧ (l.foldl addF st).2.length + whF (l.foldl addF st).1 n = st.2.length + whF st.1 n
  | [], st, _ => ⟨fun x => by simp, fun y => by simp, rfl⟩
  | s :: l, st, hl => by
    rw [List.foldl_cons]
    by_cases h : st.1 (s : Int) = true
    · have e : addF st s = st := by unfold addF; rw [if_pos h]
      rw [e]
      obtain ⟨h1, h2, h3⟩ := add_all n l st (fun u hu => hl u (by simp [hu]))
      refine ⟨fun x => ?_, fun y => ?_, h3⟩
      · rw [h1, List.mem_cons]
        constructor
        · rintro (h4 | h4)
          · exact .inl h4
          · exact .inr (.inr h4)
        · rintro (h4 | rfl | h4)
          · exact .inl h4
          · exact .inl h
          · exact .inr h4
      · rw [h2, List.mem_cons]
        constructor
        · rintro (h4 | ⟨h4, h5⟩)
          · exact .inl h4
          · exact .inr ⟨.inr h4, h5⟩
        · rintro (h4 | ⟨rfl | h4, h5⟩)
          · exact .inl h4
          · rw [h] at h5; simp at h5
          · exact .inr ⟨h4, h5⟩
    · have hf : st.1 (s : Int) = false := by simpa using h
      have hs := hl s (by simp)
      have e : addF st s = (fun y => if y = (s : Int) then true else st.1 y, st.2 ++ [s]) := by unfold addF; rw [if_neg h]
      rw [e]
      obtain ⟨h1, h2, h3⟩ := add_all n l (fun y => if y = (s : Int) then true else st.1 y, st.2 ++ [s]) (fun u hu => hl u (by simp [hu]))
      dsimp only at h1 h2 h3
      have hw : whF (fun y => if y = (s : Int) then true else st.1 y) n + 1 = whF st.1 n := by
        have h4 := whites_set (seen := (List.range n).map fun x : Nat => st.1 (x : Int)) (n := s) (by rw [List.getElem?_map, List.getElem?_range hs]; simp [hf])
        have h5 : ((List.range n).map fun x : Nat => if (x : Int) = (s : Int) then true else st.1 (x : Int)) = ((List.range n).map fun x : Nat => st.1 (x : Int)).set s true := by
          apply List.ext_getElem?
          intro i
          rw [List.getElem?_set]
          by_cases hi : i < n
          · rw [List.getElem?_map, List.getElem?_range hi, List.getElem?_map, List.getElem?_range hi]
            by_cases hsi : s = i
            · subst hsi; simp [hs]
            · rw [if_neg hsi]; simp; omega
          · rw [List.getElem?_eq_none (by simp; omega)]
            by_cases hsi : s = i
            · omega
            · rw [if_neg hsi, List.getElem?_eq_none (by simp; omega)]
        unfold whF
        rw [h5]; exact h4
      refine ⟨fun x => ?_, fun y => ?_, by rw [h3]; simp only [List.length_append, List.length_singleton]; omega⟩
      · rw [h1, List.mem_cons]
        by_cases hx : (x : Int) = (s : Int)
        · rw [if_pos hx]; have : x = s := by omega
          simp [this]
        · rw [if_neg hx]; have : x ≠ s := by omega
          simp [this]
      · rw [h2, List.mem_cons, List.mem_append, List.mem_singleton]
        by_cases hx : (y : Int) = (s : Int)
        · rw [if_pos hx]; have : y = s := by omega
          subst this; simp [hf]
        · rw [if_neg hx]; have : y ≠ s := by omega
          simp [this]

theorem step_all (dq : Nat → Nat → Bool) (h : Nat) : ∀ (l : List Nat) (b : Bool) (st : (Int → Bool) × List Nat), l.foldl (step1 dq h) (b, st) = (b || l.any (dq h), (l.filter (dq h)).foldl addF st)
  | [], b, st => by simp
  | u :: l, b, st => by
    rw [List.foldl_cons]
    by_cases hu : dq h u = true
    · have e : step1 dq h (b, st) u = (true, addF st u) := by unfold step1; rw [if_pos hu]
      rw [e, step_all dq h l]; simp [hu]
    · have e : step1 dq h (b, st) u = (b, st) := by unfold step1; rw [if_neg hu]
      rw [e, step_all dq h l]; simp [hu]

theorem work_ok {g : List (List Nat)} {ns : List Nat} (hO : OrdF g ns) (h : Nat) (T : List Nat) : ∀ (m : Nat) (f : Int → Bool) (work : List Nat), work.length + whF f g.length ≤ m →
    (∀ u ∈ work, u < g.length ∧ u ≠ h ∧ f (u : Int) = true) → (∀ x : Nat, f (x : Int) = true → x = h ∨ (Reach (GE g) x ∧ ∃ t ∈ T, Walk (GE g) (· ≠ h) x t)) → f (h : Int) = true → (∀ t ∈ T, f (t : Int) = true) →
    (∀ x : Nat, f (x : Int) = true → x ≠ h → x ∉ work → ∀ pr, (predsL g (0 :: ns))[x]? = some pr → ∀ p ∈ pr, f (p : Int) = true) →
    ∃ k F, WorkR (predsL g (0 :: ns)) k f work F ∧ ∀ x : Nat, F (x : Int) = true ↔ x = h ∨ (Reach (GE g) x ∧ ∃ t ∈ T, Walk (GE g) (· ≠ h) x t)
  | m, f, work, hm, h1, h2, h3, h4, h5 => by
    rcases List.eq_nil_or_concat work with rfl | ⟨st, n, rfl⟩
    · refine ⟨0, f, ⟨rfl, rfl⟩, fun x => ⟨h2 x, ?_⟩⟩
      rintro (rfl | ⟨hr, t, ht, hw⟩)
      · exact h3
      · have key : ∀ {a b : Nat}, Walk (GE g) (· ≠ h) a b → Reach (GE g) a → f (b : Int) = true → f (a : Int) = true := by
          intro a b hw
          induction hw with
          | refl _ => exact fun _ hf => hf
          | @snoc b c h6 h7 h8 ih =>
            intro hr hf
            have hrb : Reach (GE g) b := hr.trans (h6.imp (fun _ _ => trivial))
            have hrc : Reach (GE g) c := .snoc hrb h7 trivial
            have hcl : c < (predsL g (0 :: ns)).length := by rw [predsLen]; exact hO.lt c ((hO.mem c).2 hrc)
            exact ih hr (h5 c hf h8 (by simp) _ (List.getElem?_eq_getElem hcl) b ((predsL_mem (List.getElem?_eq_getElem hcl) b).2 ⟨(hO.mem b).2 hrb, h7⟩))
        exact key hw hr (h4 t ht)
    · obtain ⟨hnl, hnh, hnf⟩ := h1 n (by simp)
      have hnp : n < (predsL g (0 :: ns)).length := by rw [predsLen]; exact hnl
      obtain ⟨pr, hpr⟩ : ∃ pr, (predsL g (0 :: ns))[n]? = some pr := ⟨_, List.getElem?_eq_getElem hnp⟩
      have hpm := predsL_mem hpr
      obtain ⟨a1, a2, a3⟩ := add_all g.length pr (f, st) (fun u hu => hO.lt u ((hpm u).1 hu).1)
      simp only [List.concat_eq_append, List.length_append, List.length_singleton] at hm
      dsimp only at a1 a2 a3
      cases m with
      | zero => omega
      | succ m =>
        have q1 : ∀ u ∈ (pr.foldl addF (f, st)).2, u < g.length ∧ u ≠ h ∧ (pr.foldl addF (f, st)).1 (u : Int) = true := by
          intro u hu
          rcases (a2 u).1 hu with h6 | ⟨h6, h7⟩
          · have := h1 u (by simp [h6])
            exact ⟨this.1, this.2.1, (a1 u).2 (.inl this.2.2)⟩
          · exact ⟨hO.lt u ((hpm u).1 h6).1, fun e => by rw [e, h3] at h7; simp at h7, (a1 u).2 (.inr h6)⟩
        have q2 : ∀ x : Nat, (pr.foldl addF (f, st)).1 (x : Int) = true → x = h ∨ (Reach (GE g) x ∧ ∃ t ∈ T, Walk (GE g) (· ≠ h) x t) := by
          intro x hx
          rcases (a1 x).1 hx with h6 | h6
          · exact h2 x h6
          · by_cases e : x = h
            · exact .inl e
            · rcases h2 n hnf with h7 | ⟨_, t, ht, hw⟩
              · exact absurd h7 hnh
              · exact .inr ⟨(hO.mem x).1 ((hpm x).1 h6).1, t, ht, hw.cons ((hpm x).1 h6).2 e⟩
        have q3 : ∀ x : Nat, (pr.foldl addF (f, st)).1 (x : Int) = true → x ≠ h → x ∉ (pr.foldl addF (f, st)).2 → ∀ pr', (predsL g (0 :: ns))[x]? = some pr' → ∀ p ∈ pr', (pr.foldl addF (f, st)).1 (p : Int) = true := by
          intro x hx hxh hxw pr' hpr' p hp
          have hold : f (x : Int) = true → (pr.foldl addF (f, st)).1 (p : Int) = true := by
            intro h6
            by_cases hm2 : x ∈ st ++ [n]
            · rcases List.mem_append.1 hm2 with hm2 | hm2
              · exact absurd ((a2 x).2 (.inl hm2)) hxw
              · simp at hm2; subst hm2
                rw [hpr] at hpr'
                obtain rfl := Option.some.inj hpr'
                exact (a1 p).2 (.inr hp)
            · exact (a1 p).2 (.inl (h5 x h6 hxh (by simpa using hm2) pr' hpr' p hp))
          rcases (a1 x).1 hx with h6 | h6
          · exact hold h6
          · cases h7 : f (x : Int) with
            | true => exact hold h7
            | false => exact absurd ((a2 x).2 (.inr ⟨h6, h7⟩)) hxw
        obtain ⟨k, F, hk, hF⟩ := work_ok hO h T m (pr.foldl addF (f, st)).1 (pr.foldl addF (f, st)).2 (by omega) q1 q2 ((a1 h).2 (.inl h3)) (fun t ht => (a1 t).2 (.inl (h4 t ht))) q3
        exact ⟨k + 1, F, ⟨st, n, pr, by simp, hpr, hk⟩, hF⟩

/-- u is the end of a back edge to h. -/
def tailB (g : List (List Nat)) (h u : Nat) : Bool := (succ g u).contains h && domsB g h u
def bodyB (g : List (List Nat)) (h x : Nat) : Bool := decide (x = h) || (List.range g.length).any fun u => fromB g 0 (-1) x && tailB g h u && fromB g x h u
def loopsL (g : List (List Nat)) : List (Nat × List Nat) :=
  (List.range g.length).filterMap fun h => if (List.range g.length).any (tailB g h) then some (h, (List.range g.length).filter (bodyB g h)) else none

theorem tailB_iff {g : List (List Nat)} (hv : ValidG g) (h u : Nat) : tailB g h u = true ↔ RE g u h ∧ domsB g h u = true := by
  unfold tailB
  rw [Bool.and_eq_true, List.contains_iff_mem]
  exact ⟨fun ⟨h1, h2⟩ => ⟨⟨((domsB_iff hv h u).1 h2).2.1, h1⟩, h2⟩, fun ⟨h1, h2⟩ => ⟨h1.2, h2⟩⟩
theorem bodyB_iff {g : List (List Nat)} (hv : ValidG g) {h x : Nat} (hx : x < g.length) : bodyB g h x = true ↔ x = h ∨ (Reach (GE g) x ∧ ∃ t, t < g.length ∧ tailB g h t = true ∧ Walk (GE g) (· ≠ h) x t) := by
  unfold bodyB
  rw [Bool.or_eq_true, decide_eq_true_eq, List.any_eq_true]
  refine or_congr Iff.rfl ?_
  constructor
  · rintro ⟨t, ht, h1⟩
    rw [Bool.and_eq_true, Bool.and_eq_true, allB_iff hv, fromB_iff hv hx] at h1
    exact ⟨h1.1.1, t, List.mem_range.1 ht, h1.1.2, h1.2.imp (fun a h => by omega)⟩
  · rintro ⟨hr, t, ht, h1, h2⟩
    refine ⟨t, List.mem_range.2 ht, ?_⟩
    rw [Bool.and_eq_true, Bool.and_eq_true, allB_iff hv, fromB_iff hv hx]
    exact ⟨⟨hr, h1⟩, h2.imp (fun a h => by omega)⟩

theorem re_lt {g : List (List Nat)} (hv : ValidG g) {x : Nat} (h : Reach (GE g) x) : x < g.length := by
  unfold Reach at h
  cases h with
  | refl _ => exact hv.1
  | snoc _ h2 _ => exact succ_lt hv h2

/-- The loops of the program. -/
theorem loops_eq {g : List (List Nat)} (hv : ValidG g) {ns : List Nat} {D : List Int} (hO : OrdF g ns) (hD : DomF g ns D) :
    (∀ (h : Nat) (pr : List Nat), (predsL g (0 :: ns))[h]? = some pr → ∀ u ∈ pr, u < g.length ∧ ∃ k r, UpN D (atF (0 :: ns) (0 :: ns).length) (atF (0 :: ns) (0 :: ns).length (h : Int)) k u r ∧ domsB g h u = decide (r = h)) ∧
    ∃ F : Nat → Int → Bool, (∀ h, h < g.length → ∃ k, WorkR (predsL g (0 :: ns)) k (headSt (domsB g) (predsL g (0 :: ns)) h).2.1 (headSt (domsB g) (predsL g (0 :: ns)) h).2.2 (F h)) ∧
      loopsUpto (domsB g) (predsL g (0 :: ns)) F g.length g.length = loopsL g := by
  refine ⟨fun h pr hpr u hu => ?_, ?_⟩
  · obtain ⟨h1, h2⟩ := (predsL_mem hpr u).1 hu
    have hh : h ∈ 0 :: ns := (hO.mem h).2 (.snoc ((hO.mem u).1 h1) h2 trivial)
    exact ⟨hO.lt u h1, up_dom hv hO hD h1 hh⟩
  · have key : ∀ h, h < g.length → ∃ k F, WorkR (predsL g (0 :: ns)) k (headSt (domsB g) (predsL g (0 :: ns)) h).2.1 (headSt (domsB g) (predsL g (0 :: ns)) h).2.2 F ∧ ((headSt (domsB g) (predsL g (0 :: ns)) h).1 = (List.range g.length).any (tailB g h)) ∧ ∀ x : Nat, x < g.length → F (x : Int) = bodyB g h x := by
      intro h hh
      have hpl : h < (predsL g (0 :: ns)).length := by rw [predsLen]; exact hh
      obtain ⟨pr, hpr⟩ : ∃ pr, (predsL g (0 :: ns))[h]? = some pr := ⟨_, List.getElem?_eq_getElem hpl⟩
      have hpm := predsL_mem hpr
      have hgd : (predsL g (0 :: ns)).getD h [] = pr := by rw [List.getD_eq_getElem?_getD, hpr]; rfl
      unfold headSt
      rw [hgd]
      unfold head0
      rw [step_all]
      dsimp only
      have htl : ∀ u, u ∈ pr.filter (domsB g h) ↔ tailB g h u = true := by
        intro u
        rw [List.mem_filter, hpm, tailB_iff hv]
        exact ⟨fun ⟨⟨h1, h2⟩, h3⟩ => ⟨⟨(hO.mem u).1 h1, h2⟩, h3⟩, fun ⟨h1, h3⟩ => ⟨⟨(hO.mem u).2 h1.1, h1.2⟩, h3⟩⟩
      have htlt : ∀ u, tailB g h u = true → u < g.length := fun u hu => re_lt hv ((tailB_iff hv h u).1 hu).1.1
      obtain ⟨a1, a2, a3⟩ := add_all g.length (pr.filter (domsB g h)) (fun y => if y = (h : Int) then true else false, []) (fun u hu => htlt u ((htl u).1 hu))
      dsimp only at a1 a2
      have hfh : ∀ x : Nat, (if (x : Int) = (h : Int) then true else false) = true ↔ x = h := fun x => by
        by_cases e : (x : Int) = (h : Int)
        · rw [if_pos e]; simp; omega
        · rw [if_neg e]; simp; omega
      generalize hr2 : (pr.filter (domsB g h)).foldl addF (fun y => if y = (h : Int) then true else false, []) = r2 at a1 a2 ⊢
      have q1 : ∀ u ∈ r2.2, u < g.length ∧ u ≠ h ∧ r2.1 (u : Int) = true := by
        intro u hu
        rcases (a2 u).1 hu with h1 | ⟨h1, h2⟩
        · simp at h1
        · refine ⟨htlt u ((htl u).1 h1), fun e => ?_, (a1 u).2 (.inr h1)⟩
          rw [(hfh u).2 e] at h2; simp at h2
      have q2 : ∀ x : Nat, r2.1 (x : Int) = true → x = h ∨ (Reach (GE g) x ∧ ∃ t ∈ (pr.filter (domsB g h)).filter (fun t => decide (t ≠ h)), Walk (GE g) (· ≠ h) x t) := by
        intro x hx
        rcases (a1 x).1 hx with h1 | h1
        · exact .inl ((hfh x).1 h1)
        · by_cases e : x = h
          · exact .inl e
          · exact .inr ⟨((tailB_iff hv h x).1 ((htl x).1 h1)).1.1, x, List.mem_filter.2 ⟨h1, by simpa using e⟩, .refl e⟩
      have q3 : ∀ x : Nat, r2.1 (x : Int) = true → x ≠ h → x ∉ r2.2 → ∀ pr', (predsL g (0 :: ns))[x]? = some pr' → ∀ p ∈ pr', r2.1 (p : Int) = true := by
        intro x hx hxh hxw
        rcases (a1 x).1 hx with h1 | h1
        · exact absurd ((hfh x).1 h1) hxh
        · refine absurd ((a2 x).2 (.inr ⟨h1, ?_⟩)) hxw
          rw [← Bool.not_eq_true]
          exact fun h2 => hxh ((hfh x).1 h2)
      obtain ⟨k, F, hk, hF⟩ := work_ok hO h ((pr.filter (domsB g h)).filter (fun t => decide (t ≠ h))) _ _ _ (Nat.le_refl _) q1 q2 ((a1 h).2 (.inl ((hfh h).2 rfl))) (fun t ht => (a1 t).2 (.inr (List.mem_filter.1 ht).1)) q3
      refine ⟨k, F, hk, ?_, fun x hx => ?_⟩
      · rw [Bool.false_or, Bool.eq_iff_iff, List.any_eq_true, List.any_eq_true]
        constructor
        · rintro ⟨u, h1, h2⟩
          have h3 := (htl u).1 (List.mem_filter.2 ⟨h1, h2⟩)
          exact ⟨u, List.mem_range.2 (htlt u h3), h3⟩
        · rintro ⟨u, _, h2⟩
          have h3 := List.mem_filter.1 ((htl u).2 h2)
          exact ⟨u, h3.1, h3.2⟩
      · rw [Bool.eq_iff_iff, hF, bodyB_iff hv hx]
        refine or_congr Iff.rfl (and_congr Iff.rfl ⟨?_, ?_⟩)
        · rintro ⟨t, ht, hw⟩
          have h3 := (htl t).1 (List.mem_filter.1 ht).1
          exact ⟨t, htlt t h3, h3, hw⟩
        · rintro ⟨t, _, h3, hw⟩
          exact ⟨t, List.mem_filter.2 ⟨(htl t).2 h3, by simpa using hw.last⟩, hw⟩
    refine ⟨fun h => if hh : h < g.length then (key h hh).choose_spec.choose else fun _ => false, fun h hh => ?_, ?_⟩
    · dsimp only
      rw [dif_pos hh]
      exact ⟨(key h hh).choose, (key h hh).choose_spec.choose_spec.1⟩
    · unfold loopsUpto loopsL
      have hcongr : ∀ (l : List Nat) (p q : Nat → Option (Nat × List Nat)), (∀ x ∈ l, p x = q x) → l.filterMap p = l.filterMap q := by
        intro l p q
        induction l with
        | nil => intro _; rfl
        | cons a l ih => intro hpq; rw [List.filterMap_cons, List.filterMap_cons, hpq a (by simp), ih (fun x hx => hpq x (by simp [hx]))]
      refine hcongr _ _ _ (fun h hm => ?_)
      have hh := List.mem_range.1 hm
      have h1 := (key h hh).choose_spec.choose_spec.2.1
      have h2 := (key h hh).choose_spec.choose_spec.2.2
      dsimp only
      rw [dif_pos hh]
      have : bodyOf (key h hh).choose_spec.choose g.length = (List.range g.length).filter (bodyB g h) := by
        unfold bodyOf
        exact List.filter_congr (fun x hx => h2 x (List.mem_range.1 hx))
      rw [this, h1]
end Go.Proofs.Ytojclalkfhoooaa

/-
  Plain mathematics of reducibility: a ranking; merging a node into its only predecessor keeps it; a stuck graph has none.
-/
namespace Go.Proofs.Ytojclalkfhoooaa

/-- Every edge climbs in the ranking, or leads to a node that dominates its source. -/
def Ranked (E : Nat → Nat → Prop) : Prop := ∃ rank : Nat → Nat, ∀ u s, E u s → rank u < rank s ∨ Dom E s u

section
variable {E E' : Nat → Nat → Prop} {p n : Nat}

theorem merge_w1 (hpn : p ≠ n) (hn : n ≠ 0) (hu : ∀ q, E q n → q = p) (hE' : ∀ u s, E' u s ↔ u ≠ n ∧ s ≠ n ∧ (E u s ∨ (u = p ∧ E n s ∧ s ≠ p))) {P : Nat → Prop} {x : Nat} (h : Walk E P 0 x) :
    (x ≠ n → Walk E' P 0 x) ∧ (x = n → Walk E' P 0 p) := by
  induction h with
  | refl h => exact ⟨fun _ => .refl h, fun e => absurd e.symm hn⟩
  | @snoc b c h1 h2 h3 ih =>
    refine ⟨fun hc => ?_, fun hc => ?_⟩
    · by_cases hb : b = n
      · subst hb
        have h4 := ih.2 rfl
        by_cases hcp : c = p
        · subst hcp; exact h4
        · exact .snoc h4 ((hE' p c).2 ⟨hpn, hc, .inr ⟨rfl, h2, hcp⟩⟩) h3
      · exact .snoc (ih.1 hb) ((hE' b c).2 ⟨hb, hc, .inl h2⟩) h3
    · subst hc
      have := hu b h2
      subst this
      exact ih.1 hpn
theorem merge_w2 (hEpn : E p n) (hE' : ∀ u s, E' u s ↔ u ≠ n ∧ s ≠ n ∧ (E u s ∨ (u = p ∧ E n s ∧ s ≠ p))) {P : Nat → Prop} (hP : P n) {x : Nat} (h : Walk E' P 0 x) : Walk E P 0 x := by
  induction h with
  | refl h => exact .refl h
  | @snoc b c h1 h2 h3 ih =>
    obtain ⟨_, _, h4 | ⟨rfl, h4, _⟩⟩ := (hE' b c).1 h2
    · exact .snoc ih h4 h3
    · exact .snoc (.snoc ih hEpn hP) h4 h3
theorem merge_dom (hpn : p ≠ n) (hn : n ≠ 0) (hEpn : E p n) (hu : ∀ q, E q n → q = p) (hE' : ∀ u s, E' u s ↔ u ≠ n ∧ s ≠ n ∧ (E u s ∨ (u = p ∧ E n s ∧ s ≠ p))) {d x : Nat} (hd : d ≠ n) (hx : x ≠ n) : Dom E d x ↔ Dom E' d x :=
  ⟨fun h hw => h (merge_w2 (P := fun y => y ≠ d) hEpn hE' (Ne.symm hd) hw), fun h hw => h ((merge_w1 hpn hn hu hE' hw).1 hx)⟩

theorem merge_ranked (hpn : p ≠ n) (hn : n ≠ 0) (hEpn : E p n) (hu : ∀ q, E q n → q = p) (hself : ∀ u, ¬ E u u) (hr : Reach E n) (hE' : ∀ u s, E' u s ↔ u ≠ n ∧ s ≠ n ∧ (E u s ∨ (u = p ∧ E n s ∧ s ≠ p))) : Ranked E ↔ Ranked E' := by
  have hdn : ∀ d, d ≠ n → (Dom E d n ↔ Dom E d p) := fun d hd => ⟨fun h => dom_pred h hd hEpn, fun h => dom_preds hn (fun q hq => by rw [hu q hq]; exact h)⟩
  have hpn2 : Dom E p n := dom_preds hn (fun q hq => by rw [hu q hq]; exact dom_refl _ _)
  constructor
  · rintro ⟨rank, hrk⟩
    refine ⟨rank, fun u s hus => ?_⟩
    obtain ⟨h1, h2, h3 | ⟨rfl, h3, h4⟩⟩ := (hE' u s).1 hus
    · rcases hrk u s h3 with h5 | h5
      · exact .inl h5
      · exact .inr ((merge_dom hpn hn hEpn hu hE' h2 h1).1 h5)
    · have h5 : rank u < rank n := by
        rcases hrk u n hEpn with h5 | h5
        · exact h5
        · exact absurd (dom_antisymm h5 hpn2 hr) (Ne.symm hpn)
      rcases hrk n s h3 with h6 | h6
      · exact .inl (by omega)
      · exact .inr ((merge_dom hpn hn hEpn hu hE' h2 hpn).1 ((hdn s h2).1 h6))
  · rintro ⟨rank, hrk⟩
    refine ⟨fun x => if x = n then 2 * rank p + 1 else 2 * rank x, fun u s hus => ?_⟩
    by_cases hs : s = n
    · subst hs
      have := hu u hus
      subst this
      left
      dsimp only
      rw [if_neg hpn, if_pos rfl]
      omega
    · by_cases hun : u = n
      · subst hun
        by_cases hsp : s = p
        · subst hsp; exact .inr hpn2
        · rcases hrk p s ((hE' p s).2 ⟨hpn, hs, .inr ⟨rfl, hus, hsp⟩⟩) with h5 | h5
          · left
            dsimp only
            rw [if_pos rfl, if_neg hs]
            omega
          · exact .inr ((hdn s hs).2 ((merge_dom hpn hn hEpn hu hE' hs hpn).2 h5))
      · rcases hrk u s ((hE' u s).2 ⟨hun, hs, .inl hus⟩) with h5 | h5
        · left
          dsimp only
          rw [if_neg hun, if_neg hs]
          omega
        · exact .inr ((merge_dom hpn hn hEpn hu hE' hs hun).2 h5)
theorem merge_reach (hpn : p ≠ n) (hn : n ≠ 0) (hu : ∀ q, E q n → q = p) (hE' : ∀ u s, E' u s ↔ u ≠ n ∧ s ≠ n ∧ (E u s ∨ (u = p ∧ E n s ∧ s ≠ p))) {x : Nat} (hx : x ≠ n) (h : Reach E x) : Reach E' x := (merge_w1 hpn hn hu hE' h).1 hx
end

open Classical in
/-- The number of dominators. -/
noncomputable def domCnt (E : Nat → Nat → Prop) (size x : Nat) : Nat := ((List.range size).map fun d => if Dom E d x then 1 else 0).sum

theorem best_exists (cnt rank : Nat → Nat) : ∀ (l : List Nat), l ≠ [] → ∃ v ∈ l, ∀ y ∈ l, ¬ (cnt v < cnt y ∨ (cnt y = cnt v ∧ rank y < rank v))
  | [], h => absurd rfl h
  | [a], _ => ⟨a, by simp, fun y hy => by simp at hy; subst hy; omega⟩
  | a :: b :: l, _ => by
    obtain ⟨v, hv, h⟩ := best_exists cnt rank (b :: l) (by simp)
    by_cases hb : cnt v < cnt a ∨ (cnt a = cnt v ∧ rank a < rank v)
    · refine ⟨a, by simp, fun y hy => ?_⟩
      rcases List.mem_cons.1 hy with rfl | hy
      · omega
      · have := h y hy; omega
    · refine ⟨v, by simp [hv], fun y hy => ?_⟩
      rcases List.mem_cons.1 hy with rfl | hy
      · exact hb
      · exact h y hy

open Classical in
/-- A ranked graph of two nodes or more has a node with exactly one predecessor. -/
theorem stuck {E : Nat → Nat → Prop} {size : Nat} {alive : List Nat} (hsz : ∀ u s, E u s → u < size ∧ s < size) (hal : ∀ u s, E u s → u ∈ alive ∧ s ∈ alive) (hself : ∀ u, ¬ E u u) (hre : ∀ x ∈ alive, Reach E x ∧ x < size)
    (h2 : ∃ x ∈ alive, x ≠ 0) (hq : Ranked E) : ∃ v ∈ alive, v ≠ 0 ∧ ∃ p, E p v ∧ ∀ q, E q v → q = p := by
  obtain ⟨rank, hrk⟩ := hq
  obtain ⟨x0, hx0, hx00⟩ := h2
  have hne : alive.filter (fun x => decide (x ≠ 0)) ≠ [] := fun e => by
    have : x0 ∈ alive.filter (fun x => decide (x ≠ 0)) := List.mem_filter.2 ⟨hx0, by simpa using hx00⟩
    rw [e] at this; simp at this
  obtain ⟨v, hv, hbest⟩ := best_exists (domCnt E size) rank _ hne
  obtain ⟨hva, hv0⟩ := List.mem_filter.1 hv
  have hv0 : v ≠ 0 := by simpa using hv0
  have hrv := (hre v hva)
  -- counting
  have hsub : ∀ a b, (∀ d < size, Dom E d a → Dom E d b) → domCnt E size a ≤ domCnt E size b ∧ ((∃ d < size, Dom E d b ∧ ¬ Dom E d a) → domCnt E size a < domCnt E size b) := by
    intro a b hab
    have h := sum_le (fun d => if Dom E d b then 1 else 0) (fun d => if Dom E d a then 1 else 0) (List.range size) (fun d hd => by
      by_cases h1 : Dom E d a
      · simp [h1, hab d (List.mem_range.1 hd) h1]
      · simp [h1])
    refine ⟨?_, ?_⟩
    · unfold domCnt; exact h.1
    · rintro ⟨d, hd, h1, h2⟩
      unfold domCnt
      exact h.2 ⟨d, List.mem_range.2 hd, by simp [h1, h2]⟩
  have hpred : ∀ p, E p v → (∀ d < size, Dom E d v → d ≠ v → Dom E d p) ∧ (∀ d < size, Dom E d p → Dom E d v ∧ d ≠ v) := by
    intro p hp
    have hpa := (hal p v hp).1
    have hrp := hre p hpa
    have h1 : ∀ d < size, Dom E d v → d ≠ v → Dom E d p := fun d _ hd hne => dom_pred hd hne hp
    have hpv : p ≠ v := fun e => hself v (by rw [e] at hp; exact hp)
    have hnvp : ¬ Dom E v p := by
      intro hvp
      have h3 := hsub v p (fun d _ hd => by
        by_cases e : d = v
        · rw [e]; exact hvp
        · exact dom_pred hd e hp)
      have h4 := h3.2 ⟨p, hrp.2, dom_refl _ _, fun h => hpv (dom_antisymm h hvp hrp.1)⟩
      by_cases hp0 : p = 0
      · rw [hp0] at hvp; exact hv0 (dom_of_zero hvp)
      · exact hbest p (List.mem_filter.2 ⟨hpa, by simpa using hp0⟩) (.inl h4)
    have hrank : rank p < rank v := (hrk p v hp).resolve_right hnvp
    refine ⟨h1, ?_⟩
    -- the dominators of p are those of v but v
    have hcnt : domCnt E size p < domCnt E size v := by
      by_cases hp0 : p = 0
      · rw [hp0]
        refine (hsub 0 v (fun d _ hd => by rw [dom_of_zero hd]; exact dom_zero _ _)).2 ⟨v, hrv.2, dom_refl _ _, fun h => hv0 (dom_of_zero h)⟩
      · have h5 := hbest p (List.mem_filter.2 ⟨hpa, by simpa using hp0⟩)
        have h6 : domCnt E size p ≠ domCnt E size v := fun e => h5 (.inr ⟨e, hrank⟩)
        omega
    intro d hd hdp
    have hdv : d ≠ v := fun e => hnvp (by rw [← e]; exact hdp)
    refine ⟨Classical.byContradiction fun hnd => ?_, hdv⟩
    -- then p has as many dominators as v
    have hge : domCnt E size v ≤ domCnt E size p := by
      have key : ∀ (l : List Nat), l.Nodup → (∀ y ∈ l, y < size) → ((l.map fun y => if Dom E y v then 1 else 0).sum + (if d ∈ l then 1 else 0) ≤ (l.map fun y => if Dom E y p then 1 else 0).sum + (if v ∈ l then 1 else 0)) := by
        intro l
        induction l with
        | nil => intro _ _; simp
        | cons y l ih =>
          intro hnd2 hl
          have ih' := ih (List.nodup_cons.1 hnd2).2 (fun z hz => hl z (by simp [hz]))
          have hy := (List.nodup_cons.1 hnd2).1
          have hyl := hl y (by simp)
          simp only [List.map_cons, List.sum_cons, List.mem_cons]
          by_cases hyd : y = d
          · subst hyd
            have e1 : ¬ y ∈ l := hy
            simp only [hnd, hdp, e1, true_or, or_false, if_true, if_false] at ih' ⊢
            by_cases hvl : v ∈ l
            · simp only [hvl, or_true, if_true] at ih' ⊢; omega
            · have hvy : ¬ v = y := fun e => hdv e.symm
              simp only [hvl, hvy, or_self, if_false] at ih' ⊢; omega
          · have hdy : ¬ d = y := fun e => hyd e.symm
            by_cases hyv : y = v
            · subst hyv
              have e1 : ¬ y ∈ l := hy
              have e2 : Dom E y y := dom_refl _ _
              simp only [e1, e2, hnvp, hdy, false_or, true_or, if_true, if_false] at ih' ⊢
              omega
            · have hvy : ¬ v = y := fun e => hyv e.symm
              simp only [hdy, hvy, false_or]
              by_cases hyd2 : Dom E y v
              · have := h1 y hyl hyd2 hyv
                simp only [hyd2, this, if_true]
                omega
              · simp only [hyd2, if_false]
                by_cases hyp : Dom E y p
                · simp only [hyp, if_true]; omega
                · simp only [hyp, if_false]; omega
      have h7 := key (List.range size) List.nodup_range (fun y hy => List.mem_range.1 hy)
      rw [if_pos (List.mem_range.2 hd), if_pos (List.mem_range.2 hrv.2)] at h7
      unfold domCnt
      omega
    omega
  -- one predecessor exists; two are equal
  have hex : ∃ p, E p v := by
    have := hrv.1
    unfold Reach at this
    cases this with
    | refl _ => exact absurd rfl hv0
    | snoc _ h _ => exact ⟨_, h⟩
  obtain ⟨p, hp⟩ := hex
  refine ⟨v, hva, hv0, p, hp, fun q hq => ?_⟩
  have hp1 := hpred p hp
  have hq1 := hpred q hq
  have hps := (hsz p v hp).1
  have hqs := (hsz q v hq).1
  have h8 := hp1.2 p hps (dom_refl _ _)
  have h9 := hq1.1 p hps h8.1 h8.2
  have h10 := hq1.2 q hqs (dom_refl _ _)
  have h11 := hp1.1 q hqs h10.1 h10.2
  exact (dom_antisymm h11 h9 (hre q (hal q v hq).1).1)
end Go.Proofs.Ytojclalkfhoooaa

/-
  Plain mathematics of reducibility: the program's test and the reference's reduction both say whether a ranking exists.
-/
namespace Go.Proofs.Ytojclalkfhoooaa

theorem redF_iff {g : List (List Nat)} (hv : ValidG g) : redF g = true ↔ Ranked (RE g) := by
  obtain ⟨ns, hO⟩ := ordF hv
  obtain ⟨D, hD⟩ := hO.dom
  unfold redF
  rw [hO.eq, List.all_eq_true]
  constructor
  · intro h
    refine ⟨posOf (0 :: ns), fun u s hus => ?_⟩
    have h1 := List.all_eq_true.1 (h u ((hO.mem u).2 hus.1)) s hus.2
    unfold okB at h1
    rw [hO.eq, Bool.or_eq_true, decide_eq_true_eq, domsB_iff hv] at h1
    rcases h1 with h1 | h1
    · exact .inl h1
    · exact .inr (re_dom.2 h1.2.2)
  · rintro ⟨rank, hrk⟩ u hu
    rw [List.all_eq_true]
    intro s hs
    have hru := (hO.mem u).1 hu
    have hrs : Reach (GE g) s := .snoc hru hs trivial
    unfold okB
    rw [hO.eq, Bool.or_eq_true, decide_eq_true_eq, domsB_iff hv]
    rcases hO.back u s ⟨hru, hs⟩ with h1 | h1
    · exact .inl h1
    · have key : ∀ {a b : Nat}, Desc g (postL g) a b → Reach (GE g) a → rank a ≤ rank b := by
        intro a b hd
        induction hd with
        | refl a => exact fun _ => Nat.le_refl _
        | @step a c b h2 h3 _ ih =>
          intro hra
          have hrc : Reach (GE g) c := .snoc hra h2 trivial
          have h4 := hO.sub c a h3
          have h5 : rank a < rank c := by
            rcases hrk a c ⟨hra, h2⟩ with h5 | h5
            · exact h5
            · have := (hD.dom_mem ((hO.mem a).2 hra) (re_dom.1 h5)).2
              omega
          have := ih hrc
          omega
      have h2 := key h1 hrs
      rcases hrk u s ⟨hru, hs⟩ with h3 | h3
      · omega
      · exact .inr ⟨hrs, hru, re_dom.1 h3⟩

/-! ### the reference's reduction -/
def eget (ed : List (List Bool)) (p s : Nat) : Bool := (ed.getD p []).getD s false
def eset (ed : List (List Bool)) (p s : Nat) (b : Bool) : List (List Bool) := ed.set p ((ed.getD p []).set s b)
/-- One successor is handed over. -/
def mg1 (only n : Nat) (ed : List (List Bool)) (s : Nat) : List (List Bool) := eset (eset ed only s (eget ed only s || (eget ed n s && decide (s ≠ only)))) n s false
def mergeE (size only n : Nat) (ed : List (List Bool)) : List (List Bool) := (List.range size).foldl (mg1 only n) (eset ed only n false)
def predsE (size : Nat) (ed : List (List Bool)) (n : Nat) : List Nat := (List.range size).filter (fun p => eget ed p n)
def redStep (size : Nat) (st : List Bool × List (List Bool) × Int × Bool) (n : Nat) : List Bool × List (List Bool) × Int × Bool :=
  if st.1.getD n false = true ∧ (predsE size st.2.1 n).length = 1 then (st.1.set n false, mergeE size ((predsE size st.2.1 n).getLastD 0) n st.2.1, st.2.2.1 - 1, true) else st
def redPass (size : Nat) (al : List Bool) (ed : List (List Bool)) (left : Int) : List Bool × List (List Bool) × Int × Bool := ((List.range size).drop 1).foldl (redStep size) (al, ed, left, false)
/-- Passes until nothing changes; L: how many nodes are left. -/
def RedR (size : Nat) : Nat → List Bool → List (List Bool) → Int → Int → Prop
  | 0, _, _, _, _ => False
  | k + 1, al, ed, left, L => ((redPass size al ed left).2.2.2 = false ∧ L = (redPass size al ed left).2.2.1) ∨
      ((redPass size al ed left).2.2.2 = true ∧ RedR size k (redPass size al ed left).1 (redPass size al ed left).2.1 (redPass size al ed left).2.2.1 L)

def Sq (size : Nat) (ed : List (List Bool)) : Prop := ed.length = size ∧ ∀ p, p < size → (ed.getD p []).length = size
theorem eset_sq {size : Nat} {ed : List (List Bool)} (h : Sq size ed) {p s : Nat} (b : Bool) (hp : p < size) : Sq size (eset ed p s b) := by
  refine ⟨by simpa [eset] using h.1, fun q hq => ?_⟩
  unfold eset
  rw [List.getD_eq_getElem?_getD, List.getElem?_set]
  by_cases e : p = q
  · subst e; rw [if_pos rfl, if_pos (by rw [h.1]; exact hp)]; simpa using h.2 p hp
  · rw [if_neg e, ← List.getD_eq_getElem?_getD]; exact h.2 q hq
theorem eget_eset {size : Nat} {ed : List (List Bool)} (h : Sq size ed) {p s : Nat} (b : Bool) (hp : p < size) (hs : s < size) (q t : Nat) : eget (eset ed p s b) q t = if q = p ∧ t = s then b else eget ed q t := by
  unfold eget eset
  by_cases e : p = q
  · subst e
    have e1 : (ed.set p ((ed.getD p []).set s b)).getD p [] = (ed.getD p []).set s b := by
      rw [List.getD_eq_getElem?_getD, List.getElem?_set, if_pos rfl, if_pos (by rw [h.1]; exact hp)]; rfl
    rw [e1]
    by_cases e2 : s = t
    · subst e2
      rw [if_pos ⟨rfl, rfl⟩, List.getD_eq_getElem?_getD, List.getElem?_set, if_pos rfl, if_pos (by rw [h.2 p hp]; exact hs)]; rfl
    · rw [if_neg (fun h => e2 h.2.symm), List.getD_eq_getElem?_getD, List.getElem?_set, if_neg e2, ← List.getD_eq_getElem?_getD]
  · have e1 : (ed.set p ((ed.getD p []).set s b)).getD q [] = ed.getD q [] := by
      rw [List.getD_eq_getElem?_getD, List.getElem?_set, if_neg e, ← List.getD_eq_getElem?_getD]
    rw [e1, if_neg (fun h => e h.1.symm)]

theorem merge_get {size : Nat} {ed : List (List Bool)} (h : Sq size ed) {only n : Nat} (ho : only < size) (hn : n < size) (hne : only ≠ n) : ∀ (m : Nat), m ≤ size →
    Sq size ((List.range m).foldl (mg1 only n) ed) ∧ ∀ q t, eget ((List.range m).foldl (mg1 only n) ed) q t = if q = only ∧ t < m then (eget ed only t || (eget ed n t && decide (t ≠ only))) else if q = n ∧ t < m then false else eget ed q t
  | 0, _ => ⟨h, fun q t => by simp⟩
  | m + 1, hm => by
    obtain ⟨h1, h2⟩ := merge_get h ho hn hne m (by omega)
    rw [List.range_succ, List.foldl_append, List.foldl_cons, List.foldl_nil]
    generalize (List.range m).foldl (mg1 only n) ed = e1 at h1 h2
    unfold mg1
    have h3 := eset_sq h1 (s := m) (eget e1 only m || (eget e1 n m && decide (m ≠ only))) ho
    refine ⟨eset_sq h3 _ hn, fun q t => ?_⟩
    rw [eget_eset h3 false hn (by omega), eget_eset h1 _ ho (by omega), h2, h2, h2]
    simp only [Nat.lt_irrefl, and_false, if_false]
    by_cases hqo : q = only
    · subst hqo
      simp only [hne, false_and, if_false, true_and]
      by_cases htm : t = m
      · subst htm; simp
      · by_cases ht : t < m
        · simp [htm, ht, show t < m + 1 by omega]
        · simp [htm, ht, show ¬ t < m + 1 by omega]
    · simp only [hqo, false_and, if_false]
      by_cases hqn : q = n
      · subst hqn
        simp only [true_and]
        by_cases htm : t = m
        · subst htm; simp
        · by_cases ht : t < m
          · simp [htm, ht, show t < m + 1 by omega]
          · simp [htm, ht, show ¬ t < m + 1 by omega]
      · simp [hqn]

def EE (size : Nat) (ed : List (List Bool)) (u s : Nat) : Prop := u < size ∧ s < size ∧ eget ed u s = true
/-- The state of the reduction. -/
structure RS (g : List (List Nat)) (size : Nat) (al : List Bool) (ed : List (List Bool)) (left : Int) : Prop where
  sq : Sq size ed
  len : al.length = size
  z : al.getD 0 false = true
  ends : ∀ u s, EE size ed u s → al.getD u false = true ∧ al.getD s false = true ∧ u ≠ s
  re : ∀ x, al.getD x false = true → Reach (EE size ed) x
  cnt : left = (al.count true : Int)
  q : Ranked (EE size ed) ↔ Ranked (RE g)

theorem filter_one {f : Nat → Bool} : ∀ {l : List Nat}, l.Nodup → ∀ {p : Nat}, p ∈ l → f p = true → (∀ q ∈ l, f q = true → q = p) → l.filter f = [p]
  | [], _, p, h, _, _ => by simp at h
  | a :: l, hn, p, h, hf, hu => by
    have hn' := List.nodup_cons.1 hn
    by_cases e : a = p
    · subst e
      have : l.filter f = [] := by
        rw [List.filter_eq_nil_iff]
        intro q hq hfq
        exact hn'.1 (by rw [← hu q (by simp [hq]) hfq]; exact hq)
      rw [List.filter_cons, if_pos hf, this]
    · have hfa : ¬ f a = true := fun h1 => e (hu a (by simp) h1)
      rw [List.filter_cons, if_neg hfa]
      exact filter_one hn'.2 (by rcases List.mem_cons.1 h with h | h; exact absurd h.symm e; exact h) hf (fun q hq => hu q (by simp [hq]))
theorem count_set : ∀ {al : List Bool} {n : Nat}, al.getD n false = true → (al.set n false).count true + 1 = al.count true
  | [], n, h => by simp at h
  | b :: l, 0, h => by simp at h; subst h; simp
  | b :: l, n + 1, h => by
    have := count_set (al := l) (n := n) (by simpa using h)
    cases b <;> simp at this ⊢ <;> omega
theorem getD_set (al : List Bool) (n x : Nat) : (al.set n false).getD x false = if x = n then false else al.getD x false := by
  rw [List.getD_eq_getElem?_getD, List.getElem?_set]
  by_cases e : n = x
  · subst e
    rw [if_pos rfl, if_pos rfl]
    split <;> rfl
  · rw [if_neg e, if_neg (Ne.symm e), List.getD_eq_getElem?_getD]

theorem step_rs {g : List (List Nat)} {size : Nat} {al : List Bool} {ed : List (List Bool)} {left : Int} (h : RS g size al ed left) {n : Nat} (hn : n < size) (hn0 : n ≠ 0) (ha : al.getD n false = true) (hp : (predsE size ed n).length = 1) :
    RS g size (al.set n false) (mergeE size ((predsE size ed n).getLastD 0) n ed) (left - 1) := by
  obtain ⟨p, hpe⟩ : ∃ p, predsE size ed n = [p] := by
    match hq : predsE size ed n, hp with
    | [p], _ => exact ⟨p, rfl⟩
  have hmem : ∀ q, q ∈ predsE size ed n ↔ EE size ed q n := fun q => by
    unfold predsE; rw [List.mem_filter, List.mem_range]
    exact ⟨fun h => ⟨h.1, hn, h.2⟩, fun h => ⟨h.1, h.2.2⟩⟩
  rw [hpe]
  have hEpn : EE size ed p n := (hmem p).1 (by rw [hpe]; simp)
  have hu : ∀ q, EE size ed q n → q = p := fun q hq => by have := (hmem q).2 hq; rw [hpe] at this; simpa using this
  obtain ⟨hap, _, hpn⟩ := h.ends p n hEpn
  have hps := hEpn.1
  have hself : ∀ u, ¬ EE size ed u u := fun u hh => (h.ends u u hh).2.2 rfl
  have hg := merge_get (eset_sq h.sq (s := n) false hps) hps hn hpn size (Nat.le_refl _)
  have hlast : ([p] : List Nat).getLastD 0 = p := rfl
  rw [hlast]
  have hE' : ∀ u s, EE size (mergeE size p n ed) u s ↔ u ≠ n ∧ s ≠ n ∧ (EE size ed u s ∨ (u = p ∧ EE size ed n s ∧ s ≠ p)) := by
    intro u s
    unfold EE mergeE
    by_cases hus : u < size ∧ s < size
    · obtain ⟨hu1, hs1⟩ := hus
      rw [hg.2, eget_eset h.sq false hps hn, eget_eset h.sq false hps hn, eget_eset h.sq false hps hn]
      have hnp : ¬ n = p := fun e => hpn e.symm
      have hpp : eget ed p p = false := by
        cases e : eget ed p p with
        | false => rfl
        | true => exact absurd ⟨hps, hps, e⟩ (hself p)
      have hnn : eget ed n n = false := by
        cases e : eget ed n n with
        | false => rfl
        | true => exact absurd ⟨hn, hn, e⟩ (hself n)
      by_cases hun : u = n
      · subst hun; simp [hnp, hs1]
      · by_cases hup : u = p
        · subst hup
          by_cases hsn : s = n
          · subst hsn; simp [hnp, hs1, hnn, hps]
          · cases h1 : eget ed u s <;> cases h2 : eget ed n s <;> simp [hs1, hsn, hpn, hu1, hn, hnp, h1, h2]
        · by_cases hsn : s = n
          · subst hsn
            simp [hup, hun, hs1, hu1]
            cases e : eget ed u s with
            | false => rfl
            | true => exact absurd (hu u ⟨hu1, hn, e⟩) hup
          · simp [hup, hun, hsn, hu1, hs1]
    · constructor
      · exact fun hh => absurd ⟨hh.1, hh.2.1⟩ hus
      · rintro ⟨_, _, hh | ⟨rfl, hh, _⟩⟩
        · exact absurd ⟨hh.1, hh.2.1⟩ hus
        · exact absurd ⟨hps, hh.2.1⟩ hus
  refine ⟨hg.1, by simpa using h.len, ?_, ?_, ?_, ?_, ?_⟩
  · rw [getD_set, if_neg (Ne.symm hn0)]; exact h.z
  · intro u s hus
    obtain ⟨h1, h2, h3⟩ := (hE' u s).1 hus
    rw [getD_set, getD_set, if_neg h1, if_neg h2]
    rcases h3 with h3 | ⟨rfl, h3, h4⟩
    · exact h.ends u s h3
    · exact ⟨hap, (h.ends n s h3).2.1, Ne.symm h4⟩
  · intro x hx
    rw [getD_set] at hx
    by_cases e : x = n
    · rw [if_pos e] at hx; simp at hx
    · rw [if_neg e] at hx
      exact merge_reach hpn hn0 hu hE' e (h.re x hx)
  · have := count_set ha; rw [h.cnt]; omega
  · rw [← h.q]
    exact (merge_ranked hpn hn0 hEpn hu hself (h.re n ha) hE').symm

theorem step_or {g : List (List Nat)} {size : Nat} {st : List Bool × List (List Bool) × Int × Bool} (h : RS g size st.1 st.2.1 st.2.2.1) {n : Nat} (hn : n < size) (hn0 : n ≠ 0) :
    RS g size (redStep size st n).1 (redStep size st n).2.1 (redStep size st n).2.2.1 ∧ ((redStep size st n = st ∧ ¬ (st.1.getD n false = true ∧ (predsE size st.2.1 n).length = 1)) ∨ ((redStep size st n).2.2.2 = true ∧ (redStep size st n).2.2.1 = st.2.2.1 - 1)) := by
  unfold redStep
  by_cases hc : st.1.getD n false = true ∧ (predsE size st.2.1 n).length = 1
  · rw [if_pos hc]
    exact ⟨step_rs h hn hn0 hc.1 hc.2, .inr ⟨rfl, rfl⟩⟩
  · rw [if_neg hc]
    exact ⟨h, .inl ⟨rfl, hc⟩⟩
theorem pass_rs {g : List (List Nat)} {size : Nat} : ∀ (l : List Nat) (st : List Bool × List (List Bool) × Int × Bool), (∀ n ∈ l, n < size ∧ n ≠ 0) → RS g size st.1 st.2.1 st.2.2.1 →
    RS g size (l.foldl (redStep size) st).1 (l.foldl (redStep size) st).2.1 (l.foldl (redStep size) st).2.2.1 ∧
    ((l.foldl (redStep size) st = st ∧ ∀ n ∈ l, ¬ (st.1.getD n false = true ∧ (predsE size st.2.1 n).length = 1)) ∨ ((l.foldl (redStep size) st).2.2.2 = true ∧ (l.foldl (redStep size) st).2.2.1 < st.2.2.1))
  | [], st, _, h => ⟨h, .inl ⟨rfl, by simp⟩⟩
  | n :: l, st, hl, h => by
    obtain ⟨h1, h2⟩ := step_or h (hl n (by simp)).1 (hl n (by simp)).2
    obtain ⟨h3, h4⟩ := pass_rs l (redStep size st n) (fun m hm => hl m (by simp [hm])) h1
    rw [List.foldl_cons]
    refine ⟨h3, ?_⟩
    rcases h2 with ⟨h2, h5⟩ | ⟨h2, h5⟩
    · rw [h2] at h4 ⊢
      rcases h4 with ⟨h4, h6⟩ | h4
      · exact .inl ⟨h4, fun m hm => by
          rcases List.mem_cons.1 hm with rfl | hm
          · exact h5
          · exact h6 m hm⟩
      · exact .inr h4
    · rcases h4 with ⟨h4, _⟩ | ⟨h4, h6⟩
      · rw [h4]; exact .inr ⟨h2, by omega⟩
      · exact .inr ⟨h4, by omega⟩

theorem RS.final {g : List (List Nat)} {size : Nat} {al : List Bool} {ed : List (List Bool)} {left : Int} (h : RS g size al ed left) (hs : 0 < size) (hst : ∀ n, n < size → n ≠ 0 → ¬ (al.getD n false = true ∧ (predsE size ed n).length = 1)) : left = 1 ↔ Ranked (RE g) := by
  rw [← h.q]
  have hal : ∀ x, al.getD x false = true → x < size := fun x hx => by
    rw [List.getD_eq_getElem?_getD] at hx
    cases e : al[x]? with
    | none => rw [e] at hx; simp at hx
    | some b => rw [← h.len]; exact (List.getElem?_eq_some_iff.1 e).1
  by_cases hex : ∃ x, x ≠ 0 ∧ al.getD x false = true
  · obtain ⟨x, hx0, hx⟩ := hex
    have hcnt : 2 ≤ al.count true := by
      have h1 := count_set h.z
      have h2 := count_set (al := al.set 0 false) (n := x) (by rw [getD_set, if_neg hx0]; exact hx)
      omega
    refine ⟨fun e => by have := h.cnt; omega, fun hq => ?_⟩
    obtain ⟨v, hv, hv0, p, hp, hu⟩ := stuck (E := EE size ed) (size := size) (alive := (List.range size).filter (fun y => al.getD y false)) (fun u s hus => ⟨hus.1, hus.2.1⟩)
      (fun u s hus => ⟨List.mem_filter.2 ⟨List.mem_range.2 hus.1, (h.ends u s hus).1⟩, List.mem_filter.2 ⟨List.mem_range.2 hus.2.1, (h.ends u s hus).2.1⟩⟩) (fun u hh => (h.ends u u hh).2.2 rfl)
      (fun y hy => ⟨h.re y (List.mem_filter.1 hy).2, List.mem_range.1 (List.mem_filter.1 hy).1⟩) ⟨x, List.mem_filter.2 ⟨List.mem_range.2 (hal x hx), hx⟩, hx0⟩ hq
    have hvs := List.mem_filter.1 hv
    refine absurd ⟨hvs.2, ?_⟩ (hst v (List.mem_range.1 hvs.1) hv0)
    have : predsE size ed v = [p] := filter_one List.nodup_range (List.mem_range.2 hp.1) hp.2.2 (fun q hq hq2 => hu q ⟨List.mem_range.1 hq, hp.2.1, hq2⟩)
    rw [this]; rfl
  · have hno : ∀ u s, ¬ EE size ed u s := by
      intro u s hus
      obtain ⟨h1, h2, h3⟩ := h.ends u s hus
      by_cases hu0 : u = 0
      · exact hex ⟨s, fun e => h3 (by rw [hu0, e]), h2⟩
      · exact hex ⟨u, hu0, h1⟩
    refine ⟨fun _ => ⟨fun _ => 0, fun u s hus => absurd hus (hno u s)⟩, fun _ => ?_⟩
    have h1 := count_set h.z
    have h2 : (al.set 0 false).count true = 0 := by
      rw [List.count_eq_zero]
      intro hm
      obtain ⟨i, hi⟩ := List.getElem?_of_mem hm
      have h3 : (al.set 0 false).getD i false = true := by rw [List.getD_eq_getElem?_getD, hi]; rfl
      rw [getD_set] at h3
      by_cases e : i = 0
      · rw [if_pos e] at h3; simp at h3
      · rw [if_neg e] at h3; exact hex ⟨i, e, h3⟩
    rw [h.cnt]; omega

theorem red_ends {g : List (List Nat)} {size : Nat} (hs : 0 < size) : ∀ (m : Nat) (al : List Bool) (ed : List (List Bool)) (left : Int), left.toNat ≤ m → RS g size al ed left → ∃ k L, RedR size k al ed left L ∧ (L = 1 ↔ Ranked (RE g)) := by
  intro m
  induction m with
  | zero =>
    intro al ed left hm h
    have h1 := count_set h.z
    have h2 := h.cnt
    omega
  | succ m ih =>
    intro al ed left hm h
    obtain ⟨h1, h2⟩ := pass_rs (g := g) (size := size) ((List.range size).drop 1) (al, ed, left, false) (fun n hn => by
      obtain ⟨i, hi⟩ := List.getElem?_of_mem hn
      rw [List.getElem?_drop] at hi
      have hlt := (List.getElem?_eq_some_iff.1 hi).1
      rw [List.length_range] at hlt
      rw [List.getElem?_range hlt] at hi
      have := Option.some.inj hi
      omega) h
    rcases h2 with ⟨h2, h3⟩ | ⟨h2, h3⟩
    · have hp : redPass size al ed left = (al, ed, left, false) := h2
      refine ⟨1, left, .inl ⟨by rw [hp], by rw [hp]⟩, h.final hs (fun n hn hn0 => h3 n ?_)⟩
      refine List.mem_of_getElem? (i := n - 1) ?_
      rw [List.getElem?_drop, List.getElem?_range (by omega)]
      congr 1; omega
    · have h4 := count_set h1.z
      have h5 := h1.cnt
      obtain ⟨k, L, hk, hL⟩ := ih _ _ _ (by dsimp only at h3; omega) h1
      exact ⟨k + 1, L, .inr ⟨h2, hk⟩, hL⟩
end Go.Proofs.Ytojclalkfhoooaa

/-
  Plain mathematics of reducibility: the reference's start; the two tests agree.
-/
namespace Go.Proofs.Ytojclalkfhoooaa

/-- The row of a node's edges. -/
def edRow (g : List (List Nat)) (u : Nat) : List Bool := (succ g u).foldl (fun row s => row.set s (fromB g 0 (-1) u && decide (s ≠ u))) (List.replicate g.length false)
def edL (g : List (List Nat)) : List (List Bool) := (List.range g.length).map (edRow g)

theorem row_fold (a : Nat → Bool) (n : Nat) : ∀ (l : List Nat) (row : List Bool), row.length = n → (l.foldl (fun row s => row.set s (a s)) row).length = n ∧ ∀ s, s < n → (l.foldl (fun row s => row.set s (a s)) row).getD s false = if s ∈ l then a s else row.getD s false
  | [], row, h => ⟨h, fun s _ => by simp⟩
  | x :: l, row, h => by
    obtain ⟨h1, h2⟩ := row_fold a n l (row.set x (a x)) (by simpa using h)
    rw [List.foldl_cons]
    refine ⟨h1, fun s hs => ?_⟩
    rw [h2 s hs]
    by_cases hl : s ∈ l
    · rw [if_pos hl, if_pos (by simp [hl])]
    · rw [if_neg hl]
      by_cases e : x = s
      · subst e
        rw [if_pos (by simp), List.getD_eq_getElem?_getD, List.getElem?_set, if_pos rfl, if_pos (by omega)]; rfl
      · rw [if_neg (by simp [hl, Ne.symm e]), List.getD_eq_getElem?_getD, List.getElem?_set, if_neg e, ← List.getD_eq_getElem?_getD]

theorem edL_get {g : List (List Nat)} {u s : Nat} (hu : u < g.length) (hs : s < g.length) : eget (edL g) u s = if s ∈ succ g u then (fromB g 0 (-1) u && decide (s ≠ u)) else false := by
  unfold eget edL
  rw [List.getD_eq_getElem?_getD (l := (List.range g.length).map (edRow g)), List.getElem?_map, List.getElem?_range hu]
  show (edRow g u).getD s false = _
  unfold edRow
  rw [(row_fold (fun s => fromB g 0 (-1) u && decide (s ≠ u)) g.length (succ g u) (List.replicate g.length false) (by simp)).2 s hs]
  have : (List.replicate g.length false).getD s false = false := by rw [List.getD_eq_getElem?_getD, List.getElem?_replicate]; split <;> rfl
  rw [this]
theorem edL_iff {g : List (List Nat)} (hv : ValidG g) (u s : Nat) : EE g.length (edL g) u s ↔ RE g u s ∧ s ≠ u := by
  constructor
  · rintro ⟨hu, hs, h⟩
    rw [edL_get hu hs] at h
    by_cases hm : s ∈ succ g u
    · rw [if_pos hm, Bool.and_eq_true, allB_iff hv, decide_eq_true_eq] at h
      exact ⟨⟨h.1, hm⟩, h.2⟩
    · rw [if_neg hm] at h; simp at h
  · rintro ⟨⟨h1, h2⟩, h3⟩
    have hu := re_lt hv h1
    have hs := succ_lt hv h2
    refine ⟨hu, hs, ?_⟩
    rw [edL_get hu hs, if_pos h2, Bool.and_eq_true, allB_iff hv, decide_eq_true_eq]
    exact ⟨h1, h3⟩
theorem noself {E E' : Nat → Nat → Prop} (h : ∀ u s, E' u s ↔ E u s ∧ s ≠ u) {P : Nat → Prop} {x : Nat} : Walk E P 0 x ↔ Walk E' P 0 x := by
  constructor
  · intro hw
    induction hw with
    | refl h1 => exact .refl h1
    | @snoc b c h1 h2 h3 ih =>
      by_cases e : c = b
      · rw [e]; exact ih
      · exact .snoc ih ((h b c).2 ⟨h2, e⟩) h3
  · exact fun hw => (hw.mono (fun a b _ _ hh => ((h a b).1 hh).1) (fun _ hh => hh)).2
theorem ranked_noself {E E' : Nat → Nat → Prop} (h : ∀ u s, E' u s ↔ E u s ∧ s ≠ u) : Ranked E' ↔ Ranked E := by
  have hd : ∀ d x, Dom E' d x ↔ Dom E d x := fun d x => not_congr (noself h).symm
  constructor
  · rintro ⟨rank, hrk⟩
    refine ⟨rank, fun u s hus => ?_⟩
    by_cases e : s = u
    · rw [e]; exact .inr (dom_refl _ _)
    · rcases hrk u s ((h u s).2 ⟨hus, e⟩) with h1 | h1
      · exact .inl h1
      · exact .inr ((hd s u).1 h1)
  · rintro ⟨rank, hrk⟩
    refine ⟨rank, fun u s hus => ?_⟩
    rcases hrk u s ((h u s).1 hus).1 with h1 | h1
    · exact .inl h1
    · exact .inr ((hd s u).2 h1)

theorem start_rs {g : List (List Nat)} (hv : ValidG g) : RS g g.length (fromL g 0 (-1)) (edL g) (((fromL g 0 (-1)).count true : Nat) : Int) := by
  have hall : ∀ x, (fromL g 0 (-1)).getD x false = true ↔ Reach (GE g) x := fun x => allB_iff hv x
  have hre : ∀ x, Reach (EE g.length (edL g)) x ↔ Reach (GE g) x := by
    intro x
    unfold Reach
    rw [← noself (E := RE g) (E' := EE g.length (edL g)) (edL_iff hv)]
    constructor
    · exact fun hw => (hw.mono (fun _ _ _ _ h => h.2) (fun _ h => h)).2
    · intro hw
      induction hw with
      | refl h => exact .refl h
      | snoc h1 h2 h3 ih => exact .snoc ih ⟨h1, h2⟩ h3
  refine ⟨⟨by simp [edL], fun p hp => ?_⟩, fromL_len hv hv.1 _, (hall 0).2 (.refl trivial), fun u s hus => ?_, fun x hx => (hre x).2 ((hall x).1 hx), rfl, ranked_noself (edL_iff hv)⟩
  · unfold edL
    rw [List.getD_eq_getElem?_getD, List.getElem?_map, List.getElem?_range hp]
    exact (row_fold (fun s => fromB g 0 (-1) p && decide (s ≠ p)) g.length (succ g p) (List.replicate g.length false) (by simp)).1
  · obtain ⟨h1, h2⟩ := (edL_iff hv u s).1 hus
    exact ⟨(hall u).2 h1.1, (hall s).2 (.snoc h1.1 h1.2 trivial), Ne.symm h2⟩

/-- The reference's reduction ends, with the program's answer. -/
theorem red_agree {g : List (List Nat)} (hv : ValidG g) : ∃ k L, RedR g.length k (fromL g 0 (-1)) (edL g) (((fromL g 0 (-1)).count true : Nat) : Int) L ∧ decide (L = 1) = redF g := by
  obtain ⟨k, L, h1, h2⟩ := red_ends (g := g) hv.1 _ _ _ _ (Nat.le_refl _) (start_rs hv)
  refine ⟨k, L, h1, ?_⟩
  rw [Bool.eq_iff_iff, decide_eq_true_eq, h2, redF_iff hv]
end Go.Proofs.Ytojclalkfhoooaa

/-
  Graphs whose edges lead to the same nodes, in another order, have the same dominators, loops and reducibility, and orders of the same length; a graph whose edges lead to greater nodes only. No program in sight.
-/
namespace Go.Proofs.Ytojclalkfhoooaa

theorem bool_iff_eq {a b : Bool} (h : a = true ↔ b = true) : a = b := by cases a <;> cases b <;> simp_all

/-- The same edges. -/
structure Same (g h : List (List Nat)) : Prop where
  vg : ValidG g
  vh : ValidG h
  len : h.length = g.length
  mem : ∀ u s, s ∈ succ g u ↔ s ∈ succ h u
section
variable {g h : List (List Nat)}
theorem Same.ge (hs : Same g h) : GE g = GE h := by funext u s; exact propext (hs.mem u s)
theorem Same.re (hs : Same g h) : RE g = RE h := by funext u s; unfold RE; rw [hs.ge]; exact propext (and_congr Iff.rfl (hs.mem u s))
theorem Same.doms (hs : Same g h) : domsB g = domsB h := by
  funext d x
  refine bool_iff_eq ?_
  rw [domsB_iff hs.vg, domsB_iff hs.vh, hs.ge]
theorem Same.idomAt (hs : Same g h) (x : Nat) : idomAt h x = idomAt g x := by
  unfold Go.Proofs.Ytojclalkfhoooaa.idomAt
  rw [hs.len]
  have : best1 h x = best1 g x := by funext b d; unfold best1; rw [hs.doms]
  rw [this]
theorem Same.idom (hs : Same g h) : idomL h = idomL g := by
  unfold idomL
  rw [hs.len]
  exact List.map_congr_left (fun x _ => hs.idomAt x)
theorem Same.tail (hs : Same g h) : tailB g = tailB h := by
  funext a b
  refine bool_iff_eq ?_
  rw [tailB_iff hs.vg, tailB_iff hs.vh, hs.re, hs.doms]
theorem Same.body (hs : Same g h) {hd x : Nat} (hx : x < g.length) : bodyB g hd x = bodyB h hd x := by
  refine bool_iff_eq ?_
  rw [bodyB_iff hs.vg hx, bodyB_iff hs.vh (by rw [hs.len]; exact hx), hs.ge, hs.len, hs.tail]
theorem Same.loops (hs : Same g h) : loopsL h = loopsL g := by
  unfold loopsL
  rw [hs.len, hs.tail]
  congr 1
  funext a
  rw [List.filter_congr (fun x hx => (hs.body (List.mem_range.1 hx)).symm)]
theorem Same.red (hs : Same g h) : redF h = redF g := by
  refine bool_iff_eq ?_
  rw [redF_iff hs.vg, redF_iff hs.vh, hs.re]
theorem len_of_mem {l m : List Nat} (hl : l.Nodup) (hm : m.Nodup) (h : ∀ x, x ∈ l ↔ x ∈ m) : l.length = m.length :=
  ((List.perm_ext_iff_of_nodup hl hm).2 h).length_eq
theorem Same.orderLen (hs : Same g h) : (orderL h).length = (orderL g).length := by
  obtain ⟨ns, hO⟩ := ordF hs.vg
  obtain ⟨ms, hP⟩ := ordF hs.vh
  rw [hO.eq, hP.eq]
  exact len_of_mem hP.nodup hO.nodup (fun x => by rw [hO.mem, hP.mem, hs.ge])
end

/-- Edges to greater nodes only. -/
def upG (g : List (List Nat)) : List (List Nat) := (List.range g.length).map fun u => (succ g u).filter fun s => decide (u < s)
theorem upG_len (g : List (List Nat)) : (upG g).length = g.length := by simp [upG]
theorem upG_succ {g : List (List Nat)} (u s : Nat) (h : s ∈ succ (upG g) u) : s ∈ succ g u ∧ u < s := by
  unfold succ at h
  rw [List.getD_eq_getElem?_getD] at h
  unfold upG at h
  rw [List.getElem?_map] at h
  by_cases hu : u < g.length
  · rw [List.getElem?_range hu] at h
    simpa using h
  · rw [List.getElem?_eq_none (by simpa using hu)] at h
    simp at h
theorem upG_valid {g : List (List Nat)} (hv : ValidG g) : ValidG (upG g) := by
  refine ⟨by rw [upG_len]; exact hv.1, fun l hl s hs => ?_⟩
  obtain ⟨u, hu⟩ := List.getElem?_of_mem hl
  have : s ∈ succ (upG g) u := by unfold succ; rw [List.getD_eq_getElem?_getD, hu]; exact hs
  rw [upG_len]
  exact succ_lt hv (upG_succ u s this).1

theorem up_walk {h : List (List Nat)} (hu : ∀ u s, s ∈ succ h u → u < s) {P : Nat → Prop} {a b : Nat} (hw : Walk (GE h) P a b) : a ≤ b ∧ ∀ d, b < d → Walk (GE h) (· ≠ d) a b := by
  induction hw with
  | refl h1 => exact ⟨Nat.le_refl _, fun d hd => .refl (by omega)⟩
  | @snoc b c h1 h2 h3 ih =>
    have := hu b c h2
    exact ⟨by omega, fun d hd => .snoc (ih.2 d (by omega)) h2 (by omega)⟩
theorem up_red {h : List (List Nat)} (hv : ValidG h) (hu : ∀ u s, s ∈ succ h u → u < s) : redF h = true := by
  rw [redF_iff hv]
  exact ⟨id, fun u s hus => .inl (hu u s hus.2)⟩
theorem up_loops {h : List (List Nat)} (hv : ValidG h) (hu : ∀ u s, s ∈ succ h u → u < s) : loopsL h = [] := by
  unfold loopsL
  rw [List.filterMap_eq_nil_iff]
  intro a _
  rw [if_neg]
  intro hc
  obtain ⟨u, _, ht⟩ := List.any_eq_true.1 hc
  rw [tailB_iff hv, domsB_iff hv] at ht
  exact ht.2.2.2 ((up_walk hu ht.2.2.1).2 a (hu u a ht.1.2))
theorem up_desc {h : List (List Nat)} (hu : ∀ u s, s ∈ succ h u → u < s) {L : List Nat} {a b : Nat} (hd : Desc h L a b) : a ≤ b := by
  induction hd with
  | refl a => exact Nat.le_refl _
  | step h1 _ _ ih => have := hu _ _ h1; omega
theorem up_order {h : List (List Nat)} {ns : List Nat} (hO : OrdF h ns) (hu : ∀ u s, s ∈ succ h u → u < s) {u s : Nat} (h1 : u ∈ 0 :: ns) (h2 : s ∈ succ h u) : s ∈ 0 :: ns ∧ posOf (0 :: ns) u < posOf (0 :: ns) s := by
  have hr := (hO.mem u).1 h1
  refine ⟨(hO.mem s).2 (.snoc hr h2 trivial), ?_⟩
  rcases hO.back u s ⟨hr, h2⟩ with h3 | h3
  · exact h3
  · have := up_desc hu h3; have := hu _ _ h2; omega
end Go.Proofs.Ytojclalkfhoooaa

/-
  Further nodes that are not reachable change neither order, dominators, loops nor reducibility. No program in sight.
-/
namespace Go.Proofs.Ytojclalkfhoooaa

/-- The search leaves one list. -/
theorem drun_det {g : List (List Nat)} : ∀ (k k' : Nat) (seen : List Bool) (stk : List (Nat × Nat)) (post F F' : List Nat), DRun g k seen stk post F → DRun g k' seen stk post F' → F = F'
  | 0, 0, _, _, _, _, _, h, h' => by rw [← h.2, ← h'.2]
  | 0, k' + 1, _, _, _, _, _, h, h' => by obtain ⟨st, u, j, e, _⟩ := h'; rw [h.1] at e; simp at e
  | k + 1, 0, _, _, _, _, _, h, h' => by obtain ⟨st, u, j, e, _⟩ := h; rw [h'.1] at e; simp at e
  | k + 1, k' + 1, seen, stk, post, F, F', h, h' => by
    obtain ⟨st, u, j, e, h⟩ := h
    obtain ⟨st', u', j', e', h'⟩ := h'
    rw [e] at e'
    obtain ⟨rfl, e2⟩ := List.append_inj' e' rfl
    simp only [List.cons.injEq, Prod.mk.injEq, and_true] at e2
    obtain ⟨rfl, rfl⟩ := e2
    rcases h with ⟨a1, a2⟩ | ⟨s, a1, a2, a3⟩ | ⟨s, a1, a2, a3⟩ <;> rcases h' with ⟨b1, b2⟩ | ⟨s', b1, b2, b3⟩ | ⟨s', b1, b2, b3⟩
    · exact drun_det k k' _ _ _ _ _ a2 b2
    · rw [List.getElem?_eq_none (by omega)] at b1; cases b1
    · rw [List.getElem?_eq_none (by omega)] at b1; cases b1
    · rw [List.getElem?_eq_none (by omega)] at a1; cases a1
    · exact drun_det k k' _ _ _ _ _ a3 b3
    · rw [a1] at b1; cases b1; rw [a2] at b2; cases b2
    · rw [List.getElem?_eq_none (by omega)] at a1; cases a1
    · rw [a1] at b1; cases b1; rw [a2] at b2; cases b2
    · rw [a1] at b1; cases b1; exact drun_det k k' _ _ _ _ _ a3 b3
theorem order_unique {g : List (List Nat)} (hv : ValidG g) {ord : List Nat} (h : IsOrder g ord) : ord = orderL g := by
  obtain ⟨ns, hO⟩ := ordF hv
  obtain ⟨k, hk⟩ := h
  obtain ⟨k', hk'⟩ := hO.is
  have := drun_det k k' _ _ _ _ _ hk hk'
  rw [hO.eq, ← List.reverse_reverse ord, this, List.reverse_reverse]

section
variable {g ex : List (List Nat)}
theorem ext_succ {u : Nat} (hu : u < g.length) : succ (g ++ ex) u = succ g u := by
  unfold succ; rw [List.getD_eq_getElem?_getD, List.getD_eq_getElem?_getD, List.getElem?_append_left hu]
theorem drun_ext (hv : ValidG g) : ∀ (k : Nat) (seen : List Bool) (more : List Bool) (stk : List (Nat × Nat)) (post F : List Nat), seen.length = g.length → (∀ p ∈ stk, p.1 < g.length) → DRun g k seen stk post F → DRun (g ++ ex) k (seen ++ more) stk post F
  | 0, _, _, _, _, _, _, _, h => h
  | k + 1, seen, more, stk, post, F, hl, hs, h => by
    obtain ⟨st, u, j, rfl, h⟩ := h
    have hu : u < g.length := hs (u, j) (by simp)
    have hst : ∀ p ∈ st, p.1 < g.length := fun p hp => hs p (by simp [hp])
    refine ⟨st, u, j, rfl, ?_⟩
    rw [ext_succ hu]
    rcases h with ⟨a1, a2⟩ | ⟨s, a1, a2, a3⟩ | ⟨s, a1, a2, a3⟩
    · exact .inl ⟨a1, drun_ext hv k _ _ _ _ _ hl hst a2⟩
    · have hsl : s < g.length := succ_lt hv (List.mem_of_getElem? a1)
      refine .inr (.inl ⟨s, a1, by rw [List.getElem?_append_left (by omega)]; exact a2, drun_ext hv k _ _ _ _ _ hl ?_ a3⟩)
      intro p hp
      rcases List.mem_append.1 hp with hp | hp
      · exact hst p hp
      · simp at hp; subst hp; exact hu
    · have hsl : s < g.length := succ_lt hv (List.mem_of_getElem? a1)
      refine .inr (.inr ⟨s, a1, by rw [List.getElem?_append_left (by omega)]; exact a2, ?_⟩)
      rw [List.set_append_left _ _ (by omega)]
      refine drun_ext hv k _ _ _ _ _ (by simpa using hl) ?_ a3
      intro p hp
      rcases List.mem_append.1 hp with hp | hp
      · rcases List.mem_append.1 hp with hp | hp
        · exact hst p hp
        · simp at hp; subst hp; exact hu
      · simp at hp; subst hp; exact hsl

/-- What is asked of the further nodes. -/
structure Ext (g ex : List (List Nat)) : Prop where
  vg : ValidG g
  vx : ∀ l ∈ ex, ∀ s ∈ l, s < g.length + ex.length
theorem Ext.valid (h : Ext g ex) : ValidG (g ++ ex) := by
  refine ⟨by have := h.vg.1; simp; omega, fun l hl s hs => ?_⟩
  rw [List.length_append]
  rcases List.mem_append.1 hl with hl | hl
  · have := h.vg.2 l hl s hs; omega
  · exact h.vx l hl s hs
theorem Ext.order (h : Ext g ex) : orderL (g ++ ex) = orderL g := by
  obtain ⟨ns, hO⟩ := ordF h.vg
  refine (order_unique h.valid ?_).symm
  obtain ⟨k, hk⟩ := hO.is
  refine ⟨k, ?_⟩
  have := drun_ext (ex := ex) h.vg k _ (List.replicate ex.length false) _ _ _ (by simp) (by simp; exact h.vg.1) hk
  rw [hO.eq, List.length_append, ← List.replicate_append_replicate, List.set_append_left _ _ (by simpa using h.vg.1)]
  exact this
theorem Ext.walk (h : Ext g ex) {P : Nat → Prop} {x : Nat} : Walk (GE (g ++ ex)) P 0 x ↔ Walk (GE g) P 0 x := by
  have hr : ∀ {x : Nat}, Walk (GE g) P 0 x → x < g.length := fun hw => re_lt h.vg (hw.imp (fun _ _ => trivial))
  constructor
  · intro hw
    induction hw with
    | refl h1 => exact .refl h1
    | snoc h1 h2 h3 ih =>
      unfold GE at h2
      rw [ext_succ (hr ih)] at h2
      exact .snoc ih h2 h3
  · intro hw
    induction hw with
    | refl h1 => exact .refl h1
    | snoc h1 h2 h3 ih =>
      refine .snoc ih ?_ h3
      show _ ∈ succ _ _
      rw [ext_succ (hr h1)]
      exact h2
theorem Ext.reach (h : Ext g ex) {x : Nat} : Reach (GE (g ++ ex)) x ↔ Reach (GE g) x := h.walk
theorem Ext.doms (h : Ext g ex) : domsB (g ++ ex) = domsB g := by
  funext d x
  refine bool_iff_eq ?_
  rw [domsB_iff h.vg, domsB_iff h.valid, h.reach, h.reach]
  unfold Dom
  rw [h.walk]
theorem Ext.re (h : Ext g ex) : RE (g ++ ex) = RE g := by
  funext u s
  unfold RE
  rw [h.reach]
  refine propext (and_congr_right fun hr => ?_)
  rw [ext_succ (re_lt h.vg hr)]
theorem doms_lt (hv : ValidG g) {d x : Nat} (h : domsB g d x = true) : d < g.length ∧ x < g.length := by
  rw [domsB_iff hv] at h
  exact ⟨re_lt hv h.1, re_lt hv h.2.1⟩
theorem best_skip (hv : ValidG g) (x : Nat) (l : List Nat) (hl : ∀ d ∈ l, g.length ≤ d) (b : Int) : l.foldl (best1 g x) b = b := by
  induction l generalizing b with
  | nil => rfl
  | cons d l ih =>
    rw [List.foldl_cons]
    have : best1 g x b d = b := if_neg (fun hc => by have := (doms_lt hv hc.2.1).1; have := hl d (by simp); omega)
    rw [this]
    exact ih (fun e he => hl e (by simp [he])) b
theorem range_split (n m : Nat) : List.range (n + m) = List.range n ++ (List.range m).map (n + ·) := by rw [List.range_add]
theorem Ext.idomAt (h : Ext g ex) (x : Nat) : idomAt (g ++ ex) x = idomAt g x := by
  unfold Go.Proofs.Ytojclalkfhoooaa.idomAt
  have : best1 (g ++ ex) x = best1 g x := by funext b d; unfold best1; rw [h.doms]
  rw [this, List.length_append, range_split, List.foldl_append, best_skip h.vg x _ (fun d hd => by obtain ⟨i, _, rfl⟩ := List.mem_map.1 hd; omega)]
theorem idomAt_far (hv : ValidG g) {x : Nat} (hx : g.length ≤ x) : idomAt g x = -1 := by
  unfold idomAt
  have : ∀ (l : List Nat) (b : Int), l.foldl (best1 g x) b = b := by
    intro l
    induction l with
    | nil => intro b; rfl
    | cons d l ih =>
      intro b
      rw [List.foldl_cons]
      have : best1 g x b d = b := if_neg (fun hc => by have := (doms_lt hv hc.2.1).2; omega)
      rw [this, ih]
  exact this _ _
theorem Ext.idom (h : Ext g ex) : idomL (g ++ ex) = idomL g ++ List.replicate ex.length (-1) := by
  unfold idomL
  rw [List.length_append, range_split, List.map_append, List.map_map]
  congr 1
  · exact List.map_congr_left (fun x _ => h.idomAt x)
  · apply List.ext_getElem?
    intro i
    rw [List.getElem?_map, List.getElem?_replicate]
    by_cases hi : i < ex.length
    · rw [List.getElem?_range hi, if_pos hi]
      simp only [Option.map_some, Function.comp_apply]
      rw [h.idomAt, idomAt_far h.vg (by omega)]
    · rw [List.getElem?_eq_none (by simpa using hi), if_neg hi]; rfl
theorem Ext.tail (h : Ext g ex) : tailB (g ++ ex) = tailB g := by
  funext a b
  refine bool_iff_eq ?_
  rw [tailB_iff h.vg, tailB_iff h.valid, h.re, h.doms]
theorem tail_lt (hv : ValidG g) {a b : Nat} (h : tailB g a b = true) : a < g.length ∧ b < g.length := by
  rw [tailB_iff hv] at h
  exact doms_lt hv h.2
theorem any_skip (hv : ValidG g) (hd : Nat) (m : Nat) : (List.range (g.length + m)).any (tailB g hd) = (List.range g.length).any (tailB g hd) := by
  rw [range_split, List.any_append]
  have : ((List.range m).map (g.length + ·)).any (tailB g hd) = false := by
    rw [List.any_eq_false]
    intro x hx hc
    obtain ⟨i, _, rfl⟩ := List.mem_map.1 hx
    have := (tail_lt hv hc).2
    omega
  rw [this, Bool.or_false]
/-- What the search from inside finds: only old nodes. -/
theorem Ext.walkFrom (h : Ext g ex) {P : Nat → Prop} {a x : Nat} (ha : a < g.length) : Walk (GE (g ++ ex)) P a x ↔ Walk (GE g) P a x := by
  have hr : ∀ {x : Nat}, Walk (GE g) P a x → x < g.length := by
    intro x hw
    cases hw with
    | refl _ => exact ha
    | snoc _ h2 _ => exact succ_lt h.vg h2
  constructor
  · intro hw
    induction hw with
    | refl h1 => exact .refl h1
    | snoc h1 h2 h3 ih =>
      unfold GE at h2
      rw [ext_succ (hr ih)] at h2
      exact .snoc ih h2 h3
  · intro hw
    induction hw with
    | refl h1 => exact .refl h1
    | snoc h1 h2 h3 ih =>
      refine .snoc ih ?_ h3
      show _ ∈ succ _ _
      rw [ext_succ (hr h1)]
      exact h2
theorem Ext.body (h : Ext g ex) {hd x : Nat} (hx : x < g.length) : bodyB (g ++ ex) hd x = bodyB g hd x := by
  refine bool_iff_eq ?_
  rw [bodyB_iff h.vg hx, bodyB_iff h.valid (by simp; omega), h.tail, h.reach]
  refine or_congr Iff.rfl (and_congr_right fun hr => ?_)
  constructor
  · rintro ⟨t, h1, h2, h3⟩; exact ⟨t, (tail_lt h.vg h2).2, h2, (h.walkFrom hx).1 h3⟩
  · rintro ⟨t, h1, h2, h3⟩; exact ⟨t, by simp; omega, h2, (h.walkFrom hx).2 h3⟩
theorem Ext.bodyFar (h : Ext g ex) {hd x : Nat} (hhd : hd < g.length) (hx : g.length ≤ x) (hx2 : x < g.length + ex.length) : bodyB (g ++ ex) hd x = false := by
  rw [Bool.eq_false_iff]
  intro hc
  rw [bodyB_iff h.valid (by simp; omega), h.reach] at hc
  rcases hc with rfl | hc
  · omega
  · have := re_lt h.vg hc.1; omega
theorem filterMap_ext {α β : Type} {f k : α → Option β} : ∀ {l : List α}, (∀ a ∈ l, f a = k a) → l.filterMap f = l.filterMap k
  | [], _ => rfl
  | a :: l, h => by rw [List.filterMap_cons, List.filterMap_cons, h a (by simp), filterMap_ext (fun b hb => h b (by simp [hb]))]
theorem Ext.loops (h : Ext g ex) : loopsL (g ++ ex) = loopsL g := by
  unfold loopsL
  rw [h.tail, List.length_append, range_split, List.filterMap_append]
  have h2 : ((List.range ex.length).map (g.length + ·)).filterMap (fun hd => if (List.range g.length ++ (List.range ex.length).map (g.length + ·)).any (tailB g hd) then some (hd, (List.range g.length ++ (List.range ex.length).map (g.length + ·)).filter (bodyB (g ++ ex) hd)) else none) = [] := by
    rw [List.filterMap_eq_nil_iff]
    intro a ha
    obtain ⟨i, _, rfl⟩ := List.mem_map.1 ha
    rw [if_neg]
    intro hc
    obtain ⟨u, _, ht⟩ := List.any_eq_true.1 hc
    have := (tail_lt h.vg ht).1
    omega
  rw [h2, List.append_nil]
  refine filterMap_ext fun a ha => ?_
  have ha' := List.mem_range.1 ha
  rw [← range_split, any_skip h.vg, range_split, List.filter_append]
  have h3 : ((List.range ex.length).map (g.length + ·)).filter (bodyB (g ++ ex) a) = [] := by
    rw [List.filter_eq_nil_iff]
    intro x hx
    obtain ⟨i, hi, rfl⟩ := List.mem_map.1 hx
    rw [h.bodyFar ha' (by omega) (by have := List.mem_range.1 hi; omega)]
    simp
  rw [h3, List.append_nil, List.filter_congr (fun x hx => h.body (List.mem_range.1 hx))]
theorem Ext.red (h : Ext g ex) : redF (g ++ ex) = redF g := by
  refine bool_iff_eq ?_
  rw [redF_iff h.vg, redF_iff h.valid, h.re]
end
end Go.Proofs.Ytojclalkfhoooaa

/-
  A new node in the middle of an edge: dominators, loops, reducibility. No program in sight.
-/
namespace Go.Proofs.Ytojclalkfhoooaa

/-- What the immediate dominator of a node is. -/
def IdomOf (g : List (List Nat)) (x : Nat) (b : Int) : Prop :=
  (b = -1 ∧ ∀ d, d ≠ x → domsB g d x = true → False) ∨ ∃ c : Nat, b = (c : Int) ∧ c ≠ x ∧ domsB g c x = true ∧ ∀ d, d ≠ x → domsB g d x = true → Dom (GE g) d c
theorem idomOf {g : List (List Nat)} (hv : ValidG g) (x : Nat) : IdomOf g x (idomAt g x) := by
  obtain ⟨ns, hO⟩ := ordF hv
  obtain ⟨D, hD⟩ := hO.dom
  rcases best_fold hv hO hD x g.length with ⟨h1, h2⟩ | ⟨b, h1, h2, h3, h4⟩
  · exact .inl ⟨h1, fun d h3 h4 => h2 d (doms_lt hv h4).1 ⟨h3, h4⟩⟩
  · exact .inr ⟨b, h1, h2, h3, fun d h5 h6 => h4 d (doms_lt hv h6).1 h5 h6⟩
theorem idom_unique {g : List (List Nat)} (hv : ValidG g) {x : Nat} {b c : Int} (hb : IdomOf g x b) (hc : IdomOf g x c) : b = c := by
  rcases hb with ⟨rfl, h1⟩ | ⟨b', rfl, h1, h2, h3⟩ <;> rcases hc with ⟨rfl, k1⟩ | ⟨c', rfl, k1, k2, k3⟩
  · rfl
  · exact (h1 c' k1 k2).elim
  · exact (k1 b' h1 h2).elim
  · have e1 := h3 c' k1 k2
    have e2 := k3 b' h1 h2
    rw [dom_antisymm e2 e1 ((domsB_iff hv b' x).1 h2).1]
theorem idomAt_is {g : List (List Nat)} (hv : ValidG g) {x : Nat} {b : Int} (hb : IdomOf g x b) : idomAt g x = b := idom_unique hv (idomOf hv x) hb

def headB (g : List (List Nat)) (hd : Nat) : Bool := (List.range g.length).any (tailB g hd)
theorem headB_iff {g : List (List Nat)} (hv : ValidG g) (hd : Nat) : headB g hd = true ↔ ∃ t, tailB g hd t = true := by
  unfold headB
  rw [List.any_eq_true]
  exact ⟨fun ⟨t, _, h⟩ => ⟨t, h⟩, fun ⟨t, h⟩ => ⟨t, List.mem_range.2 (tail_lt hv h).2, h⟩⟩
theorem filterMap_if {α β : Type} (p : α → Bool) (f : α → β) : ∀ (l : List α), (l.filterMap fun a => if p a then some (f a) else none).length = (l.filter p).length
  | [] => rfl
  | a :: l => by
    rw [List.filterMap_cons, List.filter_cons]
    cases h : p a <;> simp [filterMap_if p f l]
theorem loops_length (g : List (List Nat)) : (loopsL g).length = ((List.range g.length).filter (headB g)).length := by
  unfold loopsL
  rw [← filterMap_if (headB g) (fun h => (h, (List.range g.length).filter (bodyB g h)))]
  rfl

/-- The edge u v of g is subdivided by the new node. -/
structure Subd (g h : List (List Nat)) (u v : Nat) : Prop where
  vg : ValidG g
  vh : ValidG h
  len : h.length = g.length + 1
  hu : u < g.length
  euv : v ∈ succ g u
  ef : ∀ a, g.length ∈ succ h a ↔ a = u
  fe : ∀ b, b ∈ succ h g.length ↔ b = v
  old : ∀ a b, a ≠ g.length → b ≠ g.length → b ∈ succ h a → b ∈ succ g a
  new : ∀ a b, b ∈ succ g a → b ∈ succ h a ∨ (a = u ∧ b = v)
section
variable {g h : List (List Nat)} {u v : Nat}
theorem Subd.hv (s : Subd g h u v) : v < g.length := succ_lt s.vg s.euv
theorem Subd.w1 (s : Subd g h u v) {P : Nat → Prop} (hP : P g.length) {x : Nat} (hw : Walk (GE g) P 0 x) : Walk (GE h) P 0 x := by
  induction hw with
  | refl h1 => exact .refl h1
  | @snoc b c h1 h2 h3 ih =>
    rcases s.new b c h2 with h4 | ⟨rfl, rfl⟩
    · exact .snoc ih h4 h3
    · exact .snoc (.snoc ih ((s.ef _).2 rfl) hP) ((s.fe _).2 rfl) h3
theorem Subd.w2 (s : Subd g h u v) {P : Nat → Prop} {x : Nat} (hw : Walk (GE h) P 0 x) : (x ≠ g.length → Walk (GE g) P 0 x) ∧ (x = g.length → Walk (GE g) P 0 u) := by
  induction hw with
  | refl h1 => exact ⟨fun _ => .refl h1, fun e => absurd e (by have := s.vg.1; omega)⟩
  | @snoc b c h1 h2 h3 ih =>
    constructor
    · intro hc
      by_cases hb : b = g.length
      · subst hb
        have : c = v := (s.fe c).1 h2
        subst this
        exact .snoc (ih.2 rfl) s.euv h3
      · exact .snoc (ih.1 hb) (s.old b c hb hc h2) h3
    · intro hc
      subst hc
      have : b = u := (s.ef b).1 h2
      subst this
      exact ih.1 (by have := s.hu; omega)
theorem Subd.reach (s : Subd g h u v) {x : Nat} (hx : x ≠ g.length) : Reach (GE h) x ↔ Reach (GE g) x := ⟨fun hw => (s.w2 hw).1 hx, fun hw => s.w1 trivial hw⟩
theorem Subd.reachF (s : Subd g h u v) : Reach (GE h) g.length ↔ Reach (GE g) u := ⟨fun hw => (s.w2 hw).2 rfl, fun hw => .snoc (s.w1 trivial hw) ((s.ef _).2 rfl) trivial⟩
theorem Subd.dom (s : Subd g h u v) {d x : Nat} (hd : d ≠ g.length) (hx : x ≠ g.length) : Dom (GE h) d x ↔ Dom (GE g) d x :=
  ⟨fun hn hw => hn (s.w1 (P := fun y => y ≠ d) (Ne.symm hd) hw), fun hn hw => hn ((s.w2 hw).1 hx)⟩
theorem Subd.f0 (s : Subd g h u v) : g.length ≠ 0 := by have := s.vg.1; omega
theorem Subd.une (s : Subd g h u v) : u ≠ g.length := by have := s.hu; omega
theorem Subd.vne (s : Subd g h u v) : v ≠ g.length := by have := s.hv; omega
theorem Subd.domUF (s : Subd g h u v) : Dom (GE h) u g.length := dom_preds s.f0 (fun p hp => by have : p = u := (s.ef p).1 hp; rw [this]; exact dom_refl _ _)
theorem Subd.domF (s : Subd g h u v) {d : Nat} (hd : d ≠ g.length) : Dom (GE h) d g.length ↔ Dom (GE h) d u :=
  ⟨fun hn => dom_pred hn hd ((s.ef u).2 rfl), fun hn => dom_preds s.f0 (fun p hp => by have : p = u := (s.ef p).1 hp; rw [this]; exact hn)⟩
theorem Subd.noFU (s : Subd g h u v) (hr : Reach (GE h) u) : ¬ Dom (GE h) g.length u := fun hn => s.une (dom_antisymm s.domUF hn hr)
theorem Subd.doms (s : Subd g h u v) {d x : Nat} (hd : d ≠ g.length) (hx : x ≠ g.length) : domsB h d x = domsB g d x := by
  refine bool_iff_eq ?_
  rw [domsB_iff s.vg, domsB_iff s.vh, s.reach hd, s.reach hx, s.dom hd hx]
/-- The new node dominates only what its source dominates. -/
theorem Subd.under (s : Subd g h u v) {x : Nat} (hx : x ≠ g.length) (hd : domsB h g.length x = true) : u ≠ x ∧ domsB g u x = true := by
  have h1 := (domsB_iff s.vh _ _).1 hd
  have hru := s.reachF.1 h1.1
  have h2 : Dom (GE h) u x := dom_trans s.domUF h1.2.2
  refine ⟨fun e => ?_, ?_⟩
  · subst e; exact s.noFU h1.2.1 h1.2.2
  · rw [domsB_iff s.vg]
    exact ⟨hru, (s.reach hx).1 h1.2.1, (s.dom s.une hx).1 h2⟩
theorem Subd.idom (s : Subd g h u v) {x : Nat} (hx : x < g.length) : idomAt h x = idomAt g x ∨ (idomAt g x = (u : Int) ∧ idomAt h x = (g.length : Int)) := by
  have hxn : x ≠ g.length := by omega
  rcases idomOf s.vg x with ⟨h1, h2⟩ | ⟨b, h1, h2, h3, h4⟩
  · left
    rw [h1]
    refine idomAt_is s.vh (.inl ⟨rfl, fun d hd hdx => ?_⟩)
    by_cases e : d = g.length
    · subst e
      have := s.under hxn hdx
      exact h2 u this.1 this.2
    · rw [s.doms e hxn] at hdx
      exact h2 d hd hdx
  · have hbn : b ≠ g.length := by have := (doms_lt s.vg h3).1; omega
    have hb3 : domsB h b x = true := by rw [s.doms hbn hxn]; exact h3
    have hold : ∀ d, d ≠ g.length → d ≠ x → domsB h d x = true → Dom (GE g) d b := fun d e hd hdx => h4 d hd (by rw [← s.doms e hxn]; exact hdx)
    by_cases hf : domsB h g.length x = true
    · have hu := s.under hxn hf
      have hub := h4 u hu.1 hu.2
      by_cases hbu : b = u
      · subst hbu
        right
        refine ⟨h1, idomAt_is s.vh (.inr ⟨g.length, rfl, Ne.symm hxn, hf, fun d hd hdx => ?_⟩)⟩
        by_cases e : d = g.length
        · subst e; exact dom_refl _ _
        · exact (s.domF e).2 ((s.dom e s.une).2 (hold d e hd hdx))
      · left
        rw [h1]
        refine idomAt_is s.vh (.inr ⟨b, rfl, h2, hb3, fun d hd hdx => ?_⟩)
        by_cases e : d = g.length
        · subst e
          obtain ⟨ms, hO⟩ := ordF s.vh
          obtain ⟨D, hD⟩ := hO.dom
          have hxr := ((domsB_iff s.vh _ _).1 hf)
          rcases hD.dom_lin ((hO.mem x).2 hxr.2.1) hxr.2.2 ((domsB_iff s.vh _ _).1 hb3).2.2 with h5 | h5
          · exact h5
          · have h6 := (s.dom hbn s.une).1 ((s.domF hbn).1 h5)
            exact absurd (dom_antisymm h6 hub ((domsB_iff s.vg _ _).1 h3).1) hbu
        · exact (s.dom e hbn).2 (hold d e hd hdx)
    · left
      rw [h1]
      refine idomAt_is s.vh (.inr ⟨b, rfl, h2, hb3, fun d hd hdx => ?_⟩)
      have e : d ≠ g.length := fun e => by subst e; exact hf hdx
      exact (s.dom e hbn).2 (hold d e hd hdx)
theorem reached_iff {g : List (List Nat)} (hv : ValidG g) (x : Nat) : Reach (GE g) x ↔ x = 0 ∨ 0 ≤ idomAt g x := by
  constructor
  · intro hr
    by_cases e : x = 0
    · exact .inl e
    · right
      rcases idomOf hv x with ⟨h1, h2⟩ | ⟨b, h1, _⟩
      · exact (h2 0 (Ne.symm e) (by rw [domsB_iff hv]; exact ⟨.refl trivial, hr, dom_zero _ _⟩)).elim
      · rw [h1]; omega
  · rintro (rfl | h1)
    · exact .refl trivial
    · rcases idomOf hv x with ⟨h2, _⟩ | ⟨b, _, _, h3, _⟩
      · omega
      · exact ((domsB_iff hv _ _).1 h3).2.1
theorem Subd.fresh (s : Subd g h u v) : (Reach (GE g) u ∧ idomAt h g.length = (u : Int)) ∨ (¬ Reach (GE g) u ∧ idomAt h g.length = -1) := by
  by_cases hr : Reach (GE g) u
  · refine .inl ⟨hr, idomAt_is s.vh (.inr ⟨u, rfl, s.une, ?_, fun d hd hdx => ?_⟩)⟩
    · rw [domsB_iff s.vh]; exact ⟨(s.reach s.une).2 hr, s.reachF.2 hr, s.domUF⟩
    · exact (s.domF hd).1 ((domsB_iff s.vh _ _).1 hdx).2.2
  · exact .inr ⟨hr, idomAt_is s.vh (.inl ⟨rfl, fun d hd hdx => hr (s.reachF.1 ((domsB_iff s.vh _ _).1 hdx).2.1)⟩)⟩
theorem Subd.headF (s : Subd g h u v) : headB h g.length = false := by
  rw [Bool.eq_false_iff]
  intro hc
  obtain ⟨t, ht⟩ := (headB_iff s.vh _).1 hc
  rw [tailB_iff s.vh, domsB_iff s.vh] at ht
  have : t = u := (s.ef t).1 ht.1.2
  subst this
  exact s.noFU ht.2.2.1 ht.2.2.2
theorem Subd.head (s : Subd g h u v) {hd : Nat} (hh : hd < g.length) : headB h hd = headB g hd := by
  have hhn : hd ≠ g.length := by omega
  refine bool_iff_eq ?_
  rw [headB_iff s.vg, headB_iff s.vh]
  constructor
  · rintro ⟨t, ht⟩
    have ht0 := ht
    rw [tailB_iff s.vh] at ht
    by_cases e : t = g.length
    · subst e
      have : hd = v := (s.fe hd).1 ht.1.2
      subst this
      refine ⟨u, (tailB_iff s.vg _ _).2 ⟨⟨s.reachF.1 ht.1.1, s.euv⟩, ?_⟩⟩
      have h2 := (domsB_iff s.vh _ _).1 ht.2
      rw [domsB_iff s.vg]
      exact ⟨(s.reach hhn).1 h2.1, s.reachF.1 h2.2.1, (s.dom hhn s.une).1 ((s.domF hhn).1 h2.2.2)⟩
    · refine ⟨t, (tailB_iff s.vg _ _).2 ⟨⟨(s.reach e).1 ht.1.1, s.old t hd e hhn ht.1.2⟩, ?_⟩⟩
      rw [← s.doms hhn e]; exact ht.2
  · rintro ⟨t, ht⟩
    have htl := (tail_lt s.vg ht).2
    have e : t ≠ g.length := by omega
    rw [tailB_iff s.vg] at ht
    rcases s.new t hd ht.1.2 with h1 | ⟨rfl, rfl⟩
    · refine ⟨t, (tailB_iff s.vh _ _).2 ⟨⟨(s.reach e).2 ht.1.1, h1⟩, ?_⟩⟩
      rw [s.doms hhn e]; exact ht.2
    · have h2 := (domsB_iff s.vg _ _).1 ht.2
      have hf := s.reachF.2 ht.1.1
      refine ⟨g.length, (tailB_iff s.vh _ _).2 ⟨⟨hf, (s.fe _).2 rfl⟩, ?_⟩⟩
      rw [domsB_iff s.vh]
      exact ⟨(s.reach hhn).2 h2.1, hf, (s.domF hhn).2 ((s.dom hhn s.une).2 h2.2.2)⟩
theorem Subd.loops (s : Subd g h u v) : (loopsL h).length = (loopsL g).length := by
  rw [loops_length, loops_length, s.len, List.range_succ, List.filter_append]
  have : [g.length].filter (headB h) = [] := by simp [s.headF]
  rw [this, List.append_nil, List.filter_congr (fun x hx => s.head (List.mem_range.1 hx))]
theorem Subd.red (s : Subd g h u v) : redF h = redF g := by
  refine bool_iff_eq ?_
  rw [redF_iff s.vg, redF_iff s.vh]
  have lt1 : ∀ {a b : Nat}, RE g a b → a ≠ g.length ∧ b ≠ g.length := fun hab => by
    have := re_lt s.vg hab.1; have := succ_lt s.vg hab.2; omega
  have rd : ∀ d x, Dom (RE g) d x ↔ Dom (GE g) d x := fun d x => re_dom
  have rdh : ∀ d x, Dom (RE h) d x ↔ Dom (GE h) d x := fun d x => re_dom
  constructor
  · rintro ⟨rank, hr⟩
    refine ⟨rank, fun a b hab => ?_⟩
    obtain ⟨ha, hb⟩ := lt1 hab
    rw [rd]
    rcases s.new a b hab.2 with h1 | ⟨rfl, rfl⟩
    · rcases hr a b ⟨(s.reach ha).2 hab.1, h1⟩ with h2 | h2
      · exact .inl h2
      · exact .inr ((s.dom hb ha).1 ((rdh _ _).1 h2))
    · have hra := (s.reach ha).2 hab.1
      have hf := s.reachF.2 hab.1
      rcases hr a g.length ⟨hra, (s.ef a).2 rfl⟩ with h2 | h2
      · rcases hr g.length b ⟨hf, (s.fe b).2 rfl⟩ with h3 | h3
        · exact .inl (by omega)
        · exact .inr ((s.dom hb ha).1 ((s.domF hb).1 ((rdh _ _).1 h3)))
      · exact absurd ((rdh _ _).1 h2) (s.noFU hra)
  · rintro ⟨rank, hr⟩
    refine ⟨fun x => if x = g.length then 2 * rank u + 1 else 2 * rank x, fun a b hab => ?_⟩
    rw [rdh]
    simp only
    by_cases ha : a = g.length
    · subst ha
      have hb : b = v := (s.fe b).1 hab.2
      subst hb
      rw [if_pos rfl, if_neg s.vne]
      rcases hr u b ⟨s.reachF.1 hab.1, s.euv⟩ with h2 | h2
      · left; omega
      · exact .inr ((s.domF s.vne).2 ((s.dom s.vne s.une).2 ((rd _ _).1 h2)))
    · by_cases hb : b = g.length
      · subst hb
        have : a = u := (s.ef a).1 hab.2
        subst this
        rw [if_neg ha, if_pos rfl]
        left; omega
      · rw [if_neg ha, if_neg hb]
        rcases hr a b ⟨(s.reach ha).1 hab.1, s.old a b ha hb hab.2⟩ with h2 | h2
        · left; omega
        · exact .inr ((s.dom hb ha).2 ((rd _ _).1 h2))
end

/-- The subdivided graph, as the law makes it. -/
def subG (g : List (List Nat)) (u k : Nat) : List (List Nat) := g.set u ((succ g u).set k g.length) ++ [[(succ g u).getD k 0]]
theorem subG_is {g : List (List Nat)} (hvg : ValidG g) {u k : Nat} (hu : u < g.length) (hk : k < (succ g u).length) : Subd g (subG g u k) u ((succ g u).getD k 0) := by
  have hvk : (succ g u).getD k 0 = (succ g u)[k] := by rw [List.getD_eq_getElem?_getD, List.getElem?_eq_getElem hk]; rfl
  have hmem : (succ g u).getD k 0 ∈ succ g u := by rw [hvk]; exact List.getElem_mem hk
  have hvl := succ_lt hvg hmem
  have sl : (subG g u k).length = g.length + 1 := by simp [subG]
  have s1 : ∀ a, a < g.length → a ≠ u → succ (subG g u k) a = succ g a := fun a ha hau => by
    show (subG g u k).getD a [] = g.getD a []
    unfold subG
    rw [List.getD_eq_getElem?_getD, List.getElem?_append_left (by simpa using ha), List.getElem?_set_ne (Ne.symm hau), ← List.getD_eq_getElem?_getD]
  have s2 : succ (subG g u k) u = (succ g u).set k g.length := by
    show (subG g u k).getD u [] = _
    unfold subG
    rw [List.getD_eq_getElem?_getD, List.getElem?_append_left (by simpa using hu), List.getElem?_set_self hu]; rfl
  have s3 : succ (subG g u k) g.length = [(succ g u).getD k 0] := by
    show (subG g u k).getD g.length [] = _
    unfold subG
    rw [List.getD_eq_getElem?_getD, List.getElem?_append_right (by simp)]; simp
  have s4 : ∀ a, g.length < a → succ (subG g u k) a = [] := fun a ha => by
    show (subG g u k).getD a [] = _
    rw [List.getD_eq_getElem?_getD, List.getElem?_eq_none (by omega)]; rfl
  have lt0 : ∀ a b, b ∈ succ g a → b ≠ g.length := fun a b hb => by have := succ_lt hvg hb; omega
  refine ⟨hvg, ⟨by omega, fun l hl s hs => ?_⟩, sl, hu, hmem, fun a => ?_, fun b => ?_, fun a b ha hb hab => ?_, fun a b hab => ?_⟩
  · rw [sl]
    obtain ⟨a, ha⟩ := List.getElem?_of_mem hl
    have hal := (List.getElem?_eq_some_iff.1 ha).1
    have hs' : s ∈ succ (subG g u k) a := by unfold succ; rw [List.getD_eq_getElem?_getD, ha]; exact hs
    by_cases e : a = g.length
    · subst e; rw [s3] at hs'; simp only [List.mem_singleton] at hs'; subst hs'; omega
    · by_cases e2 : a = u
      · subst e2; rw [s2] at hs'
        rcases List.mem_or_eq_of_mem_set hs' with h1 | h1
        · have := succ_lt hvg h1; omega
        · omega
      · rw [s1 a (by omega) e2] at hs'; have := succ_lt hvg hs'; omega
  · by_cases e2 : a = u
    · subst e2; rw [s2]; simp only [iff_true]
      exact List.mem_iff_getElem?.2 ⟨k, by rw [List.getElem?_set_self hk]⟩
    · refine ⟨fun hc => ?_, fun e => absurd e e2⟩
      by_cases e : a = g.length
      · subst e; rw [s3] at hc; simp only [List.mem_singleton] at hc; omega
      · by_cases e3 : a < g.length
        · rw [s1 a e3 e2] at hc; exact absurd rfl (lt0 _ _ hc)
        · rw [s4 a (by omega)] at hc; simp at hc
  · rw [s3]; simp
  · by_cases e2 : a = u
    · subst e2; rw [s2] at hab
      rcases List.mem_or_eq_of_mem_set hab with h1 | h1
      · exact h1
      · exact absurd h1 hb
    · by_cases e3 : a < g.length
      · rw [s1 a e3 e2] at hab; exact hab
      · rw [s4 a (by omega)] at hab; simp at hab
  · by_cases e2 : a = u
    · subst e2
      rw [s2]
      obtain ⟨i, hi⟩ := List.getElem?_of_mem hab
      by_cases e : i = k
      · subst e; right; refine ⟨rfl, ?_⟩; rw [List.getD_eq_getElem?_getD, hi]; rfl
      · left; exact List.mem_iff_getElem?.2 ⟨i, by rw [List.getElem?_set_ne (Ne.symm e)]; exact hi⟩
    · left
      have ha : a < g.length := by
        unfold succ at hab
        rw [List.getD_eq_getElem?_getD] at hab
        cases e : g[a]? with
        | none => rw [e] at hab; simp at hab
        | some l => exact (List.getElem?_eq_some_iff.1 e).1
      rw [s1 a ha e2]; exact hab
end Go.Proofs.Ytojclalkfhoooaa

/-
  Renumbering the nodes renumbers the order, the dominators and the loops. No program in sight.
-/
namespace Go.Proofs.Ytojclalkfhoooaa

/-- A permutation of the numbers below n that keeps 0. -/
structure Bij (n : Nat) (tl : List Nat) : Prop where
  len : tl.length = n
  lt : ∀ (x a : Nat), tl[x]? = some a → a < n
  inj : ∀ (x y a : Nat), tl[x]? = some a → tl[y]? = some a → x = y
  surj : ∀ a, a < n → ∃ x : Nat, tl[x]? = some a
  zero : tl[0]? = some 0
theorem Bij.start {n : Nat} (hn : 0 < n) : Bij n (List.range n) := by
  have key : ∀ {x a : Nat}, (List.range n)[x]? = some a → a = x ∧ x < n := fun {x a} h => by
    have hl := (List.getElem?_eq_some_iff.1 h).1
    rw [List.length_range] at hl
    rw [List.getElem?_range hl] at h
    exact ⟨(Option.some.inj h).symm, hl⟩
  refine ⟨by simp, fun x a h => by have := key h; omega, fun x y a h k => by have := key h; have := key k; omega, fun a ha => ⟨a, List.getElem?_range ha⟩, List.getElem?_range hn⟩
/-- Two entries change places. -/
theorem Bij.swap {n : Nat} {tl : List Nat} (h : Bij n tl) {i j a b : Nat} (hi : tl[i]? = some a) (hj : tl[j]? = some b) (hi0 : i ≠ 0) (hj0 : j ≠ 0) : Bij n ((tl.set i b).set j a) := by
  have hil := (List.getElem?_eq_some_iff.1 hi).1
  have hjl := (List.getElem?_eq_some_iff.1 hj).1
  have key : ∀ x : Nat, ((tl.set i b).set j a)[x]? = tl[if x = j then i else if x = i then j else x]? := by
    intro x
    by_cases e : x = j
    · subst e
      rw [List.getElem?_set_self (by simpa using hjl), if_pos rfl, hi]
    · rw [List.getElem?_set_ne (Ne.symm e), if_neg e]
      by_cases e2 : x = i
      · subst e2; rw [List.getElem?_set_self hil, if_pos rfl, hj]
      · rw [List.getElem?_set_ne (Ne.symm e2), if_neg e2]
  refine ⟨by simpa using h.len, fun x c hx => h.lt _ c (by rw [key] at hx; exact hx), fun x y c hx hy => ?_, fun c hc => ?_, ?_⟩
  · rw [key] at hx hy
    have := h.inj _ _ c hx hy
    split at this <;> split at this <;> (try split at this) <;> (try split at this) <;> omega
  · obtain ⟨x, hx⟩ := h.surj c hc
    refine ⟨if x = j then i else if x = i then j else x, ?_⟩
    rw [key, ← hx]
    congr 1
    split <;> split <;> (try split) <;> omega
  · rw [key, if_neg (Ne.symm hj0), if_neg (Ne.symm hi0)]; exact h.zero

/-- Node x of g has the number to x in h. -/
structure Ren (g h : List (List Nat)) (to : Nat → Nat) : Prop where
  vg : ValidG g
  len : h.length = g.length
  lt : ∀ x, x < g.length → to x < g.length
  inj : ∀ x y, x < g.length → y < g.length → to x = to y → x = y
  surj : ∀ a, a < g.length → ∃ x, x < g.length ∧ to x = a
  zero : to 0 = 0
  succ : ∀ u, u < g.length → succ h (to u) = (succ g u).map to
section
variable {g h : List (List Nat)} {to : Nat → Nat}
theorem Ren.vh (r : Ren g h to) : ValidG h := by
  refine ⟨by rw [r.len]; exact r.vg.1, fun l hl s hs => ?_⟩
  obtain ⟨a, ha⟩ := List.getElem?_of_mem hl
  obtain ⟨u, hu, rfl⟩ := r.surj a (by rw [← r.len]; exact (List.getElem?_eq_some_iff.1 ha).1)
  have hs' : s ∈ Go.Proofs.Ytojclalkfhoooaa.succ h (to u) := by unfold Go.Proofs.Ytojclalkfhoooaa.succ; rw [List.getD_eq_getElem?_getD, ha]; exact hs
  rw [r.succ u hu] at hs'
  obtain ⟨x, hx, rfl⟩ := List.mem_map.1 hs'
  rw [r.len]
  exact r.lt x (succ_lt r.vg hx)
theorem Ren.drun (r : Ren g h to) : ∀ (k : Nat) (seen seen' : List Bool) (stk : List (Nat × Nat)) (post F : List Nat), seen.length = g.length → seen'.length = g.length → (∀ x, x < g.length → seen'[to x]? = seen[x]?) → (∀ p ∈ stk, p.1 < g.length) →
    DRun g k seen stk post F → DRun h k seen' (stk.map fun p => (to p.1, p.2)) (post.map to) (F.map to)
  | 0, _, _, _, _, _, _, _, _, _, hd => by obtain ⟨rfl, rfl⟩ := hd; exact ⟨rfl, rfl⟩
  | k + 1, seen, seen', stk, post, F, hl, hl', hx, hs, hd => by
    obtain ⟨st, u, j, rfl, hd⟩ := hd
    have hu : u < g.length := hs (u, j) (by simp)
    have hst : ∀ p ∈ st, p.1 < g.length := fun p hp => hs p (by simp [hp])
    refine ⟨st.map fun p => (to p.1, p.2), to u, j, by simp, ?_⟩
    rw [r.succ u hu]
    rcases hd with ⟨a1, a2⟩ | ⟨s, a1, a2, a3⟩ | ⟨s, a1, a2, a3⟩
    · refine .inl ⟨by simpa using a1, ?_⟩
      have := r.drun k seen seen' st (post ++ [u]) F hl hl' hx hst a2
      simpa using this
    · have hsl : s < g.length := succ_lt r.vg (List.mem_of_getElem? a1)
      refine .inr (.inl ⟨to s, by rw [List.getElem?_map, a1]; rfl, by rw [hx s hsl]; exact a2, ?_⟩)
      have := r.drun k seen seen' (st ++ [(u, j + 1)]) post F hl hl' hx ?_ a3
      · simpa using this
      · intro p hp
        rcases List.mem_append.1 hp with hp | hp
        · exact hst p hp
        · simp at hp; subst hp; exact hu
    · have hsl : s < g.length := succ_lt r.vg (List.mem_of_getElem? a1)
      refine .inr (.inr ⟨to s, by rw [List.getElem?_map, a1]; rfl, by rw [hx s hsl]; exact a2, ?_⟩)
      have := r.drun k (seen.set s true) (seen'.set (to s) true) (st ++ [(u, j + 1)] ++ [(s, 0)]) post F (by simpa using hl) (by simpa using hl') ?_ ?_ a3
      · simpa using this
      · intro x hxl
        by_cases e : s = x
        · subst e
          rw [List.getElem?_set_self (by rw [hl']; exact r.lt _ hsl), List.getElem?_set_self (by rw [hl]; exact hsl)]
        · rw [List.getElem?_set_ne (fun e2 => e (r.inj s x hsl hxl e2)), List.getElem?_set_ne e]
          exact hx x hxl
      · intro p hp
        rcases List.mem_append.1 hp with hp | hp
        · rcases List.mem_append.1 hp with hp | hp
          · exact hst p hp
          · simp at hp; subst hp; exact hu
        · simp at hp; subst hp; exact hsl
theorem Ren.order (r : Ren g h to) : orderL h = (orderL g).map to := by
  obtain ⟨ns, hO⟩ := ordF r.vg
  refine (order_unique r.vh ?_).symm
  obtain ⟨k, hk⟩ := hO.is
  refine ⟨k, ?_⟩
  have hx : ∀ x, x < g.length → ((List.replicate h.length false).set 0 true)[to x]? = ((List.replicate g.length false).set 0 true)[x]? := by
    intro x hxl
    have hxl' := r.lt x hxl
    by_cases e : x = 0
    · subst e
      rw [r.zero, List.getElem?_set_self (by rw [List.length_replicate, r.len]; exact hxl), List.getElem?_set_self (by rw [List.length_replicate]; exact hxl)]
    · have e2 : 0 ≠ to x := fun e2 => e (r.inj x 0 hxl r.vg.1 (by rw [r.zero]; exact e2.symm))
      rw [List.getElem?_set_ne e2, List.getElem?_set_ne (Ne.symm e), List.getElem?_replicate, List.getElem?_replicate, if_pos hxl, if_pos (by rw [r.len]; exact hxl')]
  have := r.drun k _ ((List.replicate h.length false).set 0 true) _ _ _ (by simp) (by simp [r.len]) hx (by simp; exact r.vg.1) hk
  rw [hO.eq, ← List.map_reverse]
  simpa [r.zero] using this
theorem Ren.ge (r : Ren g h to) {a b : Nat} (ha : a < g.length) (hab : GE g a b) : GE h (to a) (to b) := by
  show _ ∈ Go.Proofs.Ytojclalkfhoooaa.succ _ _
  rw [r.succ a ha]
  exact List.mem_map.2 ⟨b, hab, rfl⟩
theorem Ren.eg (r : Ren g h to) {a c : Nat} (ha : a < g.length) (hac : GE h (to a) c) : ∃ b, b < g.length ∧ c = to b ∧ GE g a b := by
  have hac' : c ∈ Go.Proofs.Ytojclalkfhoooaa.succ h (to a) := hac
  rw [r.succ a ha] at hac'
  obtain ⟨b, hb, rfl⟩ := List.mem_map.1 hac'
  exact ⟨b, succ_lt r.vg hb, rfl, hb⟩
theorem Ren.w1 (r : Ren g h to) {P Q : Nat → Prop} (hPQ : ∀ x, x < g.length → P x → Q (to x)) {x : Nat} (hw : Walk (GE g) P 0 x) : x < g.length ∧ Walk (GE h) Q 0 (to x) := by
  induction hw with
  | refl h1 => exact ⟨r.vg.1, by rw [r.zero]; exact .refl (by have := hPQ 0 r.vg.1 h1; rwa [r.zero] at this)⟩
  | snoc h1 h2 h3 ih =>
    have hl := succ_lt r.vg h2
    exact ⟨hl, .snoc ih.2 (r.ge ih.1 h2) (hPQ _ hl h3)⟩
theorem Ren.w2 (r : Ren g h to) {Q : Nat → Prop} {y : Nat} (hw : Walk (GE h) Q 0 y) : ∃ x, x < g.length ∧ y = to x ∧ Walk (GE g) (fun z => Q (to z)) 0 x := by
  induction hw with
  | refl h1 => exact ⟨0, r.vg.1, r.zero.symm, .refl (by show Q (to 0); rw [r.zero]; exact h1)⟩
  | snoc h1 h2 h3 ih =>
    obtain ⟨x, hx, rfl, hw⟩ := ih
    obtain ⟨b, hb, rfl, hab⟩ := r.eg hx h2
    exact ⟨b, hb, rfl, .snoc hw hab h3⟩
theorem Ren.reach (r : Ren g h to) {x : Nat} (hx : x < g.length) : Reach (GE h) (to x) ↔ Reach (GE g) x := by
  constructor
  · intro hw
    obtain ⟨y, hy, e, hw'⟩ := r.w2 hw
    rw [r.inj x y hx hy e]; exact hw'
  · intro hw; exact (r.w1 (Q := fun _ => True) (fun _ _ _ => trivial) hw).2
theorem Ren.dom (r : Ren g h to) {d x : Nat} (hd : d < g.length) (hx : x < g.length) : Dom (GE h) (to d) (to x) ↔ Dom (GE g) d x := by
  refine not_congr ⟨fun hw => ?_, fun hw => (r.w1 (P := fun y => y ≠ d) (Q := fun y => y ≠ to d) (fun y hy hyd e => hyd (r.inj y d hy hd e)) hw).2⟩
  obtain ⟨y, hy, e, hw'⟩ := r.w2 hw
  rw [r.inj x y hx hy e]
  exact hw'.imp (fun z hz e2 => hz (by rw [e2]))
theorem Ren.doms (r : Ren g h to) {d x : Nat} (hd : d < g.length) (hx : x < g.length) : domsB h (to d) (to x) = domsB g d x := by
  refine bool_iff_eq ?_
  rw [domsB_iff r.vg, domsB_iff r.vh, r.reach hd, r.reach hx, r.dom hd hx]
theorem Ren.idom (r : Ren g h to) {x : Nat} (hx : x < g.length) : (idomAt g x = -1 ∧ idomAt h (to x) = -1) ∨ ∃ c : Nat, c < g.length ∧ idomAt g x = (c : Int) ∧ idomAt h (to x) = (to c : Int) := by
  have key : ∀ d, d ≠ to x → domsB h d (to x) = true → ∃ d', d' < g.length ∧ d = to d' ∧ d' ≠ x ∧ domsB g d' x = true := fun d hd hdx => by
    obtain ⟨d', hd', rfl⟩ := r.surj d (by rw [← r.len]; exact (doms_lt r.vh hdx).1)
    exact ⟨d', hd', rfl, fun e => hd (by rw [e]), by rw [← r.doms hd' hx]; exact hdx⟩
  rcases idomOf r.vg x with ⟨h1, h2⟩ | ⟨b, h1, h2, h3, h4⟩
  · refine .inl ⟨h1, idomAt_is r.vh (.inl ⟨rfl, fun d hd hdx => ?_⟩)⟩
    obtain ⟨d', _, _, h5, h6⟩ := key d hd hdx
    exact h2 d' h5 h6
  · have hb := (doms_lt r.vg h3).1
    refine .inr ⟨b, hb, h1, idomAt_is r.vh (.inr ⟨to b, rfl, fun e => h2 (r.inj b x hb hx e), by rw [r.doms hb hx]; exact h3, fun d hd hdx => ?_⟩)⟩
    obtain ⟨d', hd', rfl, h5, h6⟩ := key d hd hdx
    exact (r.dom hd' hb).2 (h4 d' h5 h6)
theorem Ren.re (r : Ren g h to) {a b : Nat} (ha : a < g.length) (hb : b < g.length) : RE h (to a) (to b) ↔ RE g a b := by
  unfold RE
  rw [r.reach ha]
  refine and_congr_right fun _ => ⟨fun h1 => ?_, fun h1 => r.ge ha h1⟩
  obtain ⟨c, hc, e, h2⟩ := r.eg ha h1
  rw [r.inj b c hb hc e]; exact h2
theorem Ren.head (r : Ren g h to) {x : Nat} (hx : x < g.length) : headB h (to x) = headB g x := by
  refine bool_iff_eq ?_
  rw [headB_iff r.vg, headB_iff r.vh]
  constructor
  · rintro ⟨t, ht⟩
    obtain ⟨a, ha, rfl⟩ := r.surj t (by rw [← r.len]; exact (tail_lt r.vh ht).2)
    rw [tailB_iff r.vh, r.re ha hx, r.doms hx ha] at ht
    exact ⟨a, (tailB_iff r.vg _ _).2 ht⟩
  · rintro ⟨a, ht⟩
    have ha := (tail_lt r.vg ht).2
    rw [tailB_iff r.vg, ← r.re ha hx, ← r.doms hx ha] at ht
    exact ⟨to a, (tailB_iff r.vh _ _).2 ht⟩
theorem nodup_map_on {f : Nat → Nat} : ∀ {l : List Nat}, (∀ x ∈ l, ∀ y ∈ l, f x = f y → x = y) → l.Nodup → (l.map f).Nodup
  | [], _, _ => by simp
  | a :: l, h, hn => by
    have hn' := List.nodup_cons.1 hn
    rw [List.map_cons, List.nodup_cons]
    refine ⟨fun hc => ?_, nodup_map_on (fun x hx y hy => h x (by simp [hx]) y (by simp [hy])) hn'.2⟩
    obtain ⟨y, hy, e⟩ := List.mem_map.1 hc
    have := h y (by simp [hy]) a (by simp) e
    subst this
    exact hn'.1 hy
theorem Ren.loops (r : Ren g h to) : (loopsL h).length = (loopsL g).length := by
  rw [loops_length, loops_length, r.len]
  have hp : (List.range g.length).Perm ((List.range g.length).map to) := by
    refine (List.perm_ext_iff_of_nodup List.nodup_range (nodup_map_on (fun x hx y hy => r.inj x y (List.mem_range.1 hx) (List.mem_range.1 hy)) List.nodup_range)).2 fun a => ?_
    rw [List.mem_range, List.mem_map]
    constructor
    · intro ha; obtain ⟨x, hx, e⟩ := r.surj a ha; exact ⟨x, List.mem_range.2 hx, e⟩
    · rintro ⟨x, hx, rfl⟩; exact r.lt x (List.mem_range.1 hx)
  rw [(hp.filter (headB h)).length_eq, List.filter_map, List.length_map]
  rw [List.filter_congr (p := headB h ∘ to) (q := headB g) (fun x hx => r.head (List.mem_range.1 hx))]
theorem Ren.red (r : Ren g h to) : redF h = redF g := by
  refine bool_iff_eq ?_
  rw [redF_iff r.vg, redF_iff r.vh]
  have l1 : ∀ {a b : Nat}, RE g a b → a < g.length ∧ b < g.length := fun hab => ⟨re_lt r.vg hab.1, succ_lt r.vg hab.2⟩
  constructor
  · rintro ⟨rank, hr⟩
    refine ⟨fun x => rank (to x), fun a b hab => ?_⟩
    obtain ⟨ha, hb⟩ := l1 hab
    rcases hr (to a) (to b) ((r.re ha hb).2 hab) with h1 | h1
    · exact .inl h1
    · exact .inr (re_dom.2 ((r.dom hb ha).1 (re_dom.1 h1)))
  · rintro ⟨rank, hr⟩
    obtain ⟨fr, hfr⟩ : ∃ fr : Nat → Nat, ∀ y, ∀ x, x < g.length → to x = y → fr y = x := by
      refine Classical.axiomOfChoice (r := fun y a => ∀ x, x < g.length → to x = y → a = x) (fun y => ?_)
      by_cases hy : ∃ x, x < g.length ∧ to x = y
      · obtain ⟨x, hx, e⟩ := hy
        exact ⟨x, fun x' hx' e' => r.inj x x' hx hx' (by rw [e, e'])⟩
      · exact ⟨0, fun x hx e => absurd ⟨x, hx, e⟩ hy⟩
    refine ⟨fun y => rank (fr y), fun p q hpq => ?_⟩
    obtain ⟨a, ha, rfl⟩ := r.surj p (by rw [← r.len]; exact re_lt r.vh hpq.1)
    obtain ⟨b, hb, rfl⟩ := r.surj q (by rw [← r.len]; exact succ_lt r.vh hpq.2)
    simp only [hfr _ a ha rfl, hfr _ b hb rfl]
    rcases hr a b ((r.re ha hb).1 hpq) with h1 | h1
    · exact .inl h1
    · exact .inr (re_dom.2 ((r.dom hb ha).2 (re_dom.1 h1)))
end
end Go.Proofs.Ytojclalkfhoooaa

/-
  The bodies of the natural loops: dominated by the head, from each node the head can be reached within the loop, two loops disjoint or one within the other. No program in sight.
-/
namespace Go.Proofs.Ytojclalkfhoooaa

section
variable {g : List (List Nat)}
theorem head_tail (hv : ValidG g) {hd : Nat} (h : headB g hd = true) : ∃ t, RE g t hd ∧ domsB g hd t = true := by
  obtain ⟨t, ht⟩ := (headB_iff hv hd).1 h
  exact ⟨t, (tailB_iff hv _ _).1 ht⟩
theorem head_reach (hv : ValidG g) {hd : Nat} (h : headB g hd = true) : Reach (GE g) hd := by
  obtain ⟨t, _, h2⟩ := head_tail hv h
  exact ((domsB_iff hv _ _).1 h2).1
theorem body_self (g : List (List Nat)) (hd : Nat) : bodyB g hd hd = true := by unfold bodyB; simp
/-- Walks that avoid a dominator. -/
theorem dom_walk {E : Nat → Nat → Prop} {d x t : Nat} (hw : Walk E (· ≠ d) x t) (hd : Dom E d t) : Dom E d x := fun hx => hd (hx.trans hw)
theorem body_dom (hv : ValidG g) {hd x : Nat} (h : headB g hd = true) (hx : x < g.length) (hb : bodyB g hd x = true) : domsB g hd x = true := by
  have hr := head_reach hv h
  rw [domsB_iff hv]
  rcases (bodyB_iff hv hx).1 hb with rfl | ⟨h1, t, h2, h3, h4⟩
  · exact ⟨hr, hr, dom_refl _ _⟩
  · exact ⟨hr, h1, dom_walk h4 ((domsB_iff hv _ _).1 ((tailB_iff hv _ _).1 h3).2).2.2⟩
/-- Backwards along a walk that avoids the head. -/
theorem body_walk (hv : ValidG g) {hd x t : Nat} (ht : tailB g hd t = true) (hr : Reach (GE g) x) (hw : Walk (GE g) (· ≠ hd) x t) : Walk (GE g) (fun y => bodyB g hd y = true) x t := by
  have key : ∀ {y : Nat}, Walk (GE g) (· ≠ hd) x y → Reach (GE g) y ∧ (Walk (GE g) (· ≠ hd) y t → Walk (GE g) (fun z => bodyB g hd z = true) x y) := by
    intro y hy
    induction hy with
    | refl h1 =>
      refine ⟨hr, fun h2 => .refl ?_⟩
      exact (bodyB_iff hv (re_lt hv hr)).2 (.inr ⟨hr, t, (tail_lt hv ht).2, ht, h2⟩)
    | @snoc b c h1 h2 h3 ih =>
      refine ⟨.snoc ih.1 h2 trivial, fun h4 => ?_⟩
      have hrc : Reach (GE g) c := .snoc ih.1 h2 trivial
      exact .snoc (ih.2 (Walk.cons h2 h1.last h4)) h2 ((bodyB_iff hv (re_lt hv hrc)).2 (.inr ⟨hrc, t, (tail_lt hv ht).2, ht, h4⟩))
  exact (key hw).2 (.refl hw.last)
theorem body_reach (hv : ValidG g) {hd x : Nat} (h : headB g hd = true) (hx : x < g.length) (hb : bodyB g hd x = true) : Walk (GE g) (fun y => bodyB g hd y = true) x hd := by
  rcases (bodyB_iff hv hx).1 hb with rfl | ⟨h1, t, h2, h3, h4⟩
  · exact .refl hb
  · exact .snoc (body_walk hv h3 h1 h4) ((tailB_iff hv _ _).1 h3).1.2 (body_self g hd)

/-- The edges within a set of nodes, as the law collects them. -/
def innerG (g : List (List Nat)) (p : Nat → Bool) : List (List Nat) := (List.range g.length).map fun u => (succ g u).filter fun s => p u && p s
theorem innerG_len (g : List (List Nat)) (p : Nat → Bool) : (innerG g p).length = g.length := by simp [innerG]
theorem innerG_succ {g : List (List Nat)} {p : Nat → Bool} {u s : Nat} : s ∈ succ (innerG g p) u ↔ s ∈ succ g u ∧ p u = true ∧ p s = true := by
  have : succ (innerG g p) u = (succ g u).filter fun s => p u && p s := by
    show (innerG g p).getD u [] = _
    unfold innerG
    rw [List.getD_eq_getElem?_getD, List.getElem?_map]
    by_cases hu : u < g.length
    · rw [List.getElem?_range hu]; rfl
    · have : succ g u = [] := by unfold succ; rw [List.getD_eq_getElem?_getD, List.getElem?_eq_none (by omega)]; rfl
      rw [List.getElem?_eq_none (by simpa using hu), this]; rfl
  rw [this, List.mem_filter, Bool.and_eq_true]
theorem innerG_valid (hv : ValidG g) (p : Nat → Bool) : ValidG (innerG g p) := by
  refine ⟨by rw [innerG_len]; exact hv.1, fun l hl s hs => ?_⟩
  obtain ⟨u, hu⟩ := List.getElem?_of_mem hl
  have : s ∈ succ (innerG g p) u := by unfold succ; rw [List.getD_eq_getElem?_getD, hu]; exact hs
  rw [innerG_len]
  exact succ_lt hv (innerG_succ.1 this).1
theorem inner_from (hv : ValidG g) {hd x : Nat} (h : headB g hd = true) (hx : x < g.length) (hb : bodyB g hd x = true) : fromB (innerG g (bodyB g hd)) x (-1) hd = true := by
  rw [fromB_iff (innerG_valid hv _) (by rw [innerG_len]; exact hx)]
  refine ((body_reach hv h hx hb).mono (fun a b ha hb hab => ?_) (fun a _ => by omega)).2
  exact innerG_succ.2 ⟨hab, ha, hb⟩

/-- From a dominator to a node without passing what lies above the dominator. -/
theorem down_walk {E : Nat → Nat → Prop} {a b x : Nat} (hab : Dom E a b) (hne : a ≠ b) (hnba : Walk E (· ≠ b) 0 a) (hbx : Dom E b x) (hrx : Reach E x) : Walk E (· ≠ a) b x := by
  have key : ∀ {y : Nat}, Reach E y → Walk E (· ≠ b) 0 y ∨ Walk E (· ≠ a) b y ∨ Walk E (· ≠ b) 0 y := by
    intro y hy
    unfold Reach at hy
    induction hy with
    | refl _ =>
      by_cases e : 0 = b
      · right; left; subst e; exact .refl (Ne.symm hne)
      · exact .inl (.refl e)
    | @snoc y z h1 h2 h3 ih =>
      by_cases e : z = b
      · subst e; right; left; exact .refl (Ne.symm hne)
      · rcases ih with ih | ih | ih
        · exact .inl (.snoc ih h2 e)
        · by_cases e2 : z = a
          · subst e2; exact .inl hnba
          · exact .inr (.inl (.snoc ih h2 e2))
        · exact .inl (.snoc ih h2 e)
  rcases key hrx with h1 | h1 | h1
  · exact absurd h1 hbx
  · exact h1
  · exact absurd h1 hbx
/-- Two loops with a node in common: the one with the lower head lies within the other. -/
theorem body_sub (hv : ValidG g) {a b x : Nat} (ha : headB g a = true) (hb : headB g b = true) (hab : Dom (GE g) a b) (hne : a ≠ b) (hx : x < g.length) (hxa : bodyB g a x = true) (hxb : bodyB g b x = true) : ∀ y, y < g.length → bodyB g b y = true → bodyB g a y = true := by
  intro y hy hyb
  have hra := head_reach hv ha
  have hrb := head_reach hv hb
  have hnba : Walk (GE g) (· ≠ b) 0 a := Classical.byContradiction fun hc => hne (dom_antisymm hab hc hra)
  -- no node of the body of b is a
  have hna : ∀ z, z < g.length → bodyB g b z = true → z ≠ a := fun z hz hzb e => by
    subst e
    exact ((domsB_iff hv _ _).1 (body_dom hv hb hz hzb)).2.2 hnba
  have hxd := (domsB_iff hv _ _).1 (body_dom hv hb hx hxb)
  have hyd := (domsB_iff hv _ _).1 (body_dom hv hb hy hyb)
  -- from y to b without a
  have h1 : Walk (GE g) (· ≠ a) y b := by
    have hw := body_reach hv hb hy hyb
    have hle : ∀ {z : Nat}, Walk (GE g) (fun y => bodyB g b y = true) y z → z < g.length ∧ Walk (GE g) (· ≠ a) y z := by
      intro z hz
      induction hz with
      | refl h1 => exact ⟨hy, .refl (hna _ hy h1)⟩
      | snoc h1 h2 h3 ih =>
        have hl := succ_lt hv h2
        exact ⟨hl, .snoc ih.2 h2 (hna _ hl h3)⟩
    exact (hle hw).2
  have h2 : Walk (GE g) (· ≠ a) b x := down_walk hab hne hnba hxd.2.2 hxd.2.1
  rcases (bodyB_iff hv hx).1 hxa with e | ⟨_, t, h3, h4, h5⟩
  · exact absurd e (hna x hx hxb)
  · exact (bodyB_iff hv hy).2 (.inr ⟨hyd.2.1, t, h3, h4, (h1.trans h2).trans h5⟩)
theorem bodies_nest (hv : ValidG g) {a b : Nat} (ha : headB g a = true) (hb : headB g b = true) (hne : a ≠ b) {x : Nat} (hx : x < g.length) (hxa : bodyB g a x = true) (hxb : bodyB g b x = true) :
    (∀ y, y < g.length → bodyB g b y = true → bodyB g a y = true) ∨ (∀ y, y < g.length → bodyB g a y = true → bodyB g b y = true) := by
  obtain ⟨ns, hO⟩ := ordF hv
  obtain ⟨D, hD⟩ := hO.dom
  have h1 := (domsB_iff hv _ _).1 (body_dom hv ha hx hxa)
  have h2 := (domsB_iff hv _ _).1 (body_dom hv hb hx hxb)
  rcases hD.dom_lin ((hO.mem x).2 h1.2.1) h1.2.2 h2.2.2 with h3 | h3
  · exact .inl (body_sub hv ha hb h3 hne hx hxa hxb)
  · exact .inr (body_sub hv hb ha h3 (Ne.symm hne) hx hxb hxa)

/-- The list of loops, by its heads. -/
def headsL (g : List (List Nat)) : List Nat := (List.range g.length).filter (headB g)
def bodyL (g : List (List Nat)) (hd : Nat) : List Nat := (List.range g.length).filter (bodyB g hd)
theorem loopsL_heads (g : List (List Nat)) : loopsL g = (headsL g).map fun hd => (hd, bodyL g hd) := by
  unfold loopsL headsL
  have : ∀ l : List Nat, (l.filterMap fun h => if (List.range g.length).any (tailB g h) then some (h, (List.range g.length).filter (bodyB g h)) else none) = (l.filter (headB g)).map fun hd => (hd, bodyL g hd) := by
    intro l
    induction l with
    | nil => rfl
    | cons a l ih =>
      rw [List.filterMap_cons, List.filter_cons, ih]
      have e : (List.range g.length).any (tailB g a) = headB g a := rfl
      rw [e]
      cases h : headB g a <;> simp [bodyL]
  exact this _
theorem headsL_lt {g : List (List Nat)} {i j a b : Nat} (hi : (headsL g)[i]? = some a) (hj : (headsL g)[j]? = some b) (hij : i < j) : a < b := by
  have hp : (headsL g).Pairwise (· < ·) := List.Pairwise.filter _ List.pairwise_lt_range
  rw [List.pairwise_iff_getElem] at hp
  obtain ⟨h1, rfl⟩ := List.getElem?_eq_some_iff.1 hi
  obtain ⟨h2, rfl⟩ := List.getElem?_eq_some_iff.1 hj
  exact hp i j h1 h2 hij
theorem bodyL_lt {g : List (List Nat)} {hd i j a b : Nat} (hi : (bodyL g hd)[i]? = some a) (hj : (bodyL g hd)[j]? = some b) (hij : i < j) : a < b := by
  have hp : (bodyL g hd).Pairwise (· < ·) := List.Pairwise.filter _ List.pairwise_lt_range
  rw [List.pairwise_iff_getElem] at hp
  obtain ⟨h1, rfl⟩ := List.getElem?_eq_some_iff.1 hi
  obtain ⟨h2, rfl⟩ := List.getElem?_eq_some_iff.1 hj
  exact hp i j h1 h2 hij
theorem headsL_mem {g : List (List Nat)} {hd : Nat} : hd ∈ headsL g ↔ hd < g.length ∧ headB g hd = true := by unfold headsL; rw [List.mem_filter, List.mem_range]
theorem bodyL_mem {g : List (List Nat)} {hd x : Nat} : x ∈ bodyL g hd ↔ x < g.length ∧ bodyB g hd x = true := by unfold bodyL; rw [List.mem_filter, List.mem_range]
end
end Go.Proofs.Ytojclalkfhoooaa
