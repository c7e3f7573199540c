/-
  Plain mathematics of reducibility: the program's test and the reference's reduction both say whether a ranking exists.
-/
import Derived.Test.YtpfinkcnklkclaaMRed
set_option linter.unusedVariables false
set_option linter.unusedSimpArgs false
namespace Go.Proofs.Ytpfinkcnklkclaa

theorem redF_iff {g : List (List Nat)} (hv : ValidG g) : redF g = true ↔ Ranked (RE g) := by
  obtain ⟨ns, hO⟩ := ordF hv
  obtain ⟨D, hD⟩ := hO.dom
  unfold redF
  rw [hO.eq, List.all_eq_true]
  constructor
  · intro h
    refine ⟨posOf (0 :: ns), fun u s hus => ?_⟩
    have h1 := List.all_eq_true.1 (h u ((hO.mem u).2 hus.1)) s hus.2
    unfold okB at h1
    rw [hO.eq, Bool.or_eq_true, decide_eq_true_eq, domsB_iff hv] at h1
    rcases h1 with h1 | h1
    · exact .inl h1
    · exact .inr (re_dom.2 h1.2.2)
  · rintro ⟨rank, hrk⟩ u hu
    rw [List.all_eq_true]
    intro s hs
    have hru := (hO.mem u).1 hu
    have hrs : Reach (GE g) s := .snoc hru hs trivial
    unfold okB
    rw [hO.eq, Bool.or_eq_true, decide_eq_true_eq, domsB_iff hv]
    rcases hO.back u s ⟨hru, hs⟩ with h1 | h1
    · exact .inl h1
    · have key : ∀ {a b : Nat}, Desc g (postL g) a b → Reach (GE g) a → rank a ≤ rank b := by
        intro a b hd
        induction hd with
        | refl a => exact fun _ => Nat.le_refl _
        | @step a c b h2 h3 _ ih =>
          intro hra
          have hrc : Reach (GE g) c := .snoc hra h2 trivial
          have h4 := hO.sub c a h3
          have h5 : rank a < rank c := by
            rcases hrk a c ⟨hra, h2⟩ with h5 | h5
            · exact h5
            · have := (hD.dom_mem ((hO.mem a).2 hra) (re_dom.1 h5)).2
              omega
          have := ih hrc
          omega
      have h2 := key h1 hrs
      rcases hrk u s ⟨hru, hs⟩ with h3 | h3
      · omega
      · exact .inr ⟨hrs, hru, re_dom.1 h3⟩

/-! ### the reference's reduction -/
def eget (ed : List (List Bool)) (p s : Nat) : Bool := (ed.getD p []).getD s false
def eset (ed : List (List Bool)) (p s : Nat) (b : Bool) : List (List Bool) := ed.set p ((ed.getD p []).set s b)
/-- One successor is handed over. -/
def mg1 (only n : Nat) (ed : List (List Bool)) (s : Nat) : List (List Bool) := eset (eset ed only s (eget ed only s || (eget ed n s && decide (s ≠ only)))) n s false
def mergeE (size only n : Nat) (ed : List (List Bool)) : List (List Bool) := (List.range size).foldl (mg1 only n) (eset ed only n false)
def predsE (size : Nat) (ed : List (List Bool)) (n : Nat) : List Nat := (List.range size).filter (fun p => eget ed p n)
def redStep (size : Nat) (st : List Bool × List (List Bool) × Int × Bool) (n : Nat) : List Bool × List (List Bool) × Int × Bool :=
  if st.1.getD n false = true ∧ (predsE size st.2.1 n).length = 1 then (st.1.set n false, mergeE size ((predsE size st.2.1 n).getLastD 0) n st.2.1, st.2.2.1 - 1, true) else st
def redPass (size : Nat) (al : List Bool) (ed : List (List Bool)) (left : Int) : List Bool × List (List Bool) × Int × Bool := ((List.range size).drop 1).foldl (redStep size) (al, ed, left, false)
/-- Passes until nothing changes; L: how many nodes are left. -/
def RedR (size : Nat) : Nat → List Bool → List (List Bool) → Int → Int → Prop
  | 0, _, _, _, _ => False
  | k + 1, al, ed, left, L => ((redPass size al ed left).2.2.2 = false ∧ L = (redPass size al ed left).2.2.1) ∨
      ((redPass size al ed left).2.2.2 = true ∧ RedR size k (redPass size al ed left).1 (redPass size al ed left).2.1 (redPass size al ed left).2.2.1 L)

def Sq (size : Nat) (ed : List (List Bool)) : Prop := ed.length = size ∧ ∀ p, p < size → (ed.getD p []).length = size
theorem eset_sq {size : Nat} {ed : List (List Bool)} (h : Sq size ed) {p s : Nat} (b : Bool) (hp : p < size) : Sq size (eset ed p s b) := by
  refine ⟨by simpa [eset] using h.1, fun q hq => ?_⟩
  unfold eset
  rw [List.getD_eq_getElem?_getD, List.getElem?_set]
  by_cases e : p = q
  · subst e; rw [if_pos rfl, if_pos (by rw [h.1]; exact hp)]; simpa using h.2 p hp
  · rw [if_neg e, ← List.getD_eq_getElem?_getD]; exact h.2 q hq
theorem eget_eset {size : Nat} {ed : List (List Bool)} (h : Sq size ed) {p s : Nat} (b : Bool) (hp : p < size) (hs : s < size) (q t : Nat) : eget (eset ed p s b) q t = if q = p ∧ t = s then b else eget ed q t := by
  unfold eget eset
  by_cases e : p = q
  · subst e
    have e1 : (ed.set p ((ed.getD p []).set s b)).getD p [] = (ed.getD p []).set s b := by
      rw [List.getD_eq_getElem?_getD, List.getElem?_set, if_pos rfl, if_pos (by rw [h.1]; exact hp)]; rfl
    rw [e1]
    by_cases e2 : s = t
    · subst e2
      rw [if_pos ⟨rfl, rfl⟩, List.getD_eq_getElem?_getD, List.getElem?_set, if_pos rfl, if_pos (by rw [h.2 p hp]; exact hs)]; rfl
    · rw [if_neg (fun h => e2 h.2.symm), List.getD_eq_getElem?_getD, List.getElem?_set, if_neg e2, ← List.getD_eq_getElem?_getD]
  · have e1 : (ed.set p ((ed.getD p []).set s b)).getD q [] = ed.getD q [] := by
      rw [List.getD_eq_getElem?_getD, List.getElem?_set, if_neg e, ← List.getD_eq_getElem?_getD]
    rw [e1, if_neg (fun h => e h.1.symm)]

theorem merge_get {size : Nat} {ed : List (List Bool)} (h : Sq size ed) {only n : Nat} (ho : only < size) (hn : n < size) (hne : only ≠ n) : ∀ (m : Nat), m ≤ size →
    Sq size ((List.range m).foldl (mg1 only n) ed) ∧ ∀ q t, eget ((List.range m).foldl (mg1 only n) ed) q t = if q = only ∧ t < m then (eget ed only t || (eget ed n t && decide (t ≠ only))) else if q = n ∧ t < m then false else eget ed q t
  | 0, _ => ⟨h, fun q t => by simp⟩
  | m + 1, hm => by
    obtain ⟨h1, h2⟩ := merge_get h ho hn hne m (by omega)
    rw [List.range_succ, List.foldl_append, List.foldl_cons, List.foldl_nil]
    generalize (List.range m).foldl (mg1 only n) ed = e1 at h1 h2
    unfold mg1
    have h3 := eset_sq h1 (s := m) (eget e1 only m || (eget e1 n m && decide (m ≠ only))) ho
    refine ⟨eset_sq h3 _ hn, fun q t => ?_⟩
    rw [eget_eset h3 false hn (by omega), eget_eset h1 _ ho (by omega), h2, h2, h2]
    simp only [Nat.lt_irrefl, and_false, if_false]
    by_cases hqo : q = only
    · subst hqo
      simp only [hne, false_and, if_false, true_and]
      by_cases htm : t = m
      · subst htm; simp
      · by_cases ht : t < m
        · simp [htm, ht, show t < m + 1 by omega]
        · simp [htm, ht, show ¬ t < m + 1 by omega]
    · simp only [hqo, false_and, if_false]
      by_cases hqn : q = n
      · subst hqn
        simp only [true_and]
        by_cases htm : t = m
        · subst htm; simp
        · by_cases ht : t < m
          · simp [htm, ht, show t < m + 1 by omega]
          · simp [htm, ht, show ¬ t < m + 1 by omega]
      · simp [hqn]

def EE (size : Nat) (ed : List (List Bool)) (u s : Nat) : Prop := u < size ∧ s < size ∧ eget ed u s = true
/-- The state of the reduction. -/
structure RS (g : List (List Nat)) (size : Nat) (al : List Bool) (ed : List (List Bool)) (left : Int) : Prop where
  sq : Sq size ed
  len : al.length = size
  z : al.getD 0 false = true
  ends : ∀ u s, EE size ed u s → al.getD u false = true ∧ al.getD s false = true ∧ u ≠ s
  re : ∀ x, al.getD x false = true → Reach (EE size ed) x
  cnt : left = (al.count true : Int)
  q : Ranked (EE size ed) ↔ Ranked (RE g)

theorem filter_one {f : Nat → Bool} : ∀ {l : List Nat}, l.Nodup → ∀ {p : Nat}, p ∈ l → f p = true → (∀ q ∈ l, f q = true → q = p) → l.filter f = [p]
  | [], _, p, h, _, _ => by simp at h
  | a :: l, hn, p, h, hf, hu => by
    have hn' := List.nodup_cons.1 hn
    by_cases e : a = p
    · subst e
      have : l.filter f = [] := by
        rw [List.filter_eq_nil_iff]
        intro q hq hfq
        exact hn'.1 (by rw [← hu q (by simp [hq]) hfq]; exact hq)
      rw [List.filter_cons, if_pos hf, this]
    · have hfa : ¬ f a = true := fun h1 => e (hu a (by simp) h1)
      rw [List.filter_cons, if_neg hfa]
      exact filter_one hn'.2 (by rcases List.mem_cons.1 h with h | h; exact absurd h.symm e; exact h) hf (fun q hq => hu q (by simp [hq]))
theorem count_set : ∀ {al : List Bool} {n : Nat}, al.getD n false = true → (al.set n false).count true + 1 = al.count true
  | [], n, h => by simp at h
  | b :: l, 0, h => by simp at h; subst h; simp
  | b :: l, n + 1, h => by
    have := count_set (al := l) (n := n) (by simpa using h)
    cases b <;> simp at this ⊢ <;> omega
theorem getD_set (al : List Bool) (n x : Nat) : (al.set n false).getD x false = if x = n then false else al.getD x false := by
  rw [List.getD_eq_getElem?_getD, List.getElem?_set]
  by_cases e : n = x
  · subst e
    rw [if_pos rfl, if_pos rfl]
    split <;> rfl
  · rw [if_neg e, if_neg (Ne.symm e), List.getD_eq_getElem?_getD]

theorem step_rs {g : List (List Nat)} {size : Nat} {al : List Bool} {ed : List (List Bool)} {left : Int} (h : RS g size al ed left) {n : Nat} (hn : n < size) (hn0 : n ≠ 0) (ha : al.getD n false = true) (hp : (predsE size ed n).length = 1) :
    RS g size (al.set n false) (mergeE size ((predsE size ed n).getLastD 0) n ed) (left - 1) := by
  obtain ⟨p, hpe⟩ : ∃ p, predsE size ed n = [p] := by
    match hq : predsE size ed n, hp with
    | [p], _ => exact ⟨p, rfl⟩
  have hmem : ∀ q, q ∈ predsE size ed n ↔ EE size ed q n := fun q => by
    unfold predsE; rw [List.mem_filter, List.mem_range]
    exact ⟨fun h => ⟨h.1, hn, h.2⟩, fun h => ⟨h.1, h.2.2⟩⟩
  rw [hpe]
  have hEpn : EE size ed p n := (hmem p).1 (by rw [hpe]; simp)
  have hu : ∀ q, EE size ed q n → q = p := fun q hq => by have := (hmem q).2 hq; rw [hpe] at this; simpa using this
  obtain ⟨hap, _, hpn⟩ := h.ends p n hEpn
  have hps := hEpn.1
  have hself : ∀ u, ¬ EE size ed u u := fun u hh => (h.ends u u hh).2.2 rfl
  have hg := merge_get (eset_sq h.sq (s := n) false hps) hps hn hpn size (Nat.le_refl _)
  have hlast : ([p] : List Nat).getLastD 0 = p := rfl
  rw [hlast]
  have hE' : ∀ u s, EE size (mergeE size p n ed) u s ↔ u ≠ n ∧ s ≠ n ∧ (EE size ed u s ∨ (u = p ∧ EE size ed n s ∧ s ≠ p)) := by
    intro u s
    unfold EE mergeE
    by_cases hus : u < size ∧ s < size
    · obtain ⟨hu1, hs1⟩ := hus
      rw [hg.2, eget_eset h.sq false hps hn, eget_eset h.sq false hps hn, eget_eset h.sq false hps hn]
      have hnp : ¬ n = p := fun e => hpn e.symm
      have hpp : eget ed p p = false := by
        cases e : eget ed p p with
        | false => rfl
        | true => exact absurd ⟨hps, hps, e⟩ (hself p)
      have hnn : eget ed n n = false := by
        cases e : eget ed n n with
        | false => rfl
        | true => exact absurd ⟨hn, hn, e⟩ (hself n)
      by_cases hun : u = n
      · subst hun; simp [hnp, hs1]
      · by_cases hup : u = p
        · subst hup
          by_cases hsn : s = n
          · subst hsn; simp [hnp, hs1, hnn, hps]
          · cases h1 : eget ed u s <;> cases h2 : eget ed n s <;> simp [hs1, hsn, hpn, hu1, hn, hnp, h1, h2]
        · by_cases hsn : s = n
          · subst hsn
            simp [hup, hun, hs1, hu1]
            cases e : eget ed u s with
            | false => rfl
            | true => exact absurd (hu u ⟨hu1, hn, e⟩) hup
          · simp [hup, hun, hsn, hu1, hs1]
    · constructor
      · exact fun hh => absurd ⟨hh.1, hh.2.1⟩ hus
      · rintro ⟨_, _, hh | ⟨rfl, hh, _⟩⟩
        · exact absurd ⟨hh.1, hh.2.1⟩ hus
        · exact absurd ⟨hps, hh.2.1⟩ hus
  refine ⟨hg.1, by simpa using h.len, ?_, ?_, ?_, ?_, ?_⟩
  · rw [getD_set, if_neg (Ne.symm hn0)]; exact h.z
  · intro u s hus
    obtain ⟨h1, h2, h3⟩ := (hE' u s).1 hus
    rw [getD_set, getD_set, if_neg h1, if_neg h2]
    rcases h3 with h3 | ⟨rfl, h3, h4⟩
    · exact h.ends u s h3
    · exact ⟨hap, (h.ends n s h3).2.1, Ne.symm h4⟩
  · intro x hx
    rw [getD_set] at hx
    by_cases e : x = n
    · rw [if_pos e] at hx; simp at hx
    · rw [if_neg e] at hx
      exact merge_reach hpn hn0 hu hE' e (h.re x hx)
  · have := count_set ha; rw [h.cnt]; omega
  · rw [← h.q]
    exact (merge_ranked hpn hn0 hEpn hu hself (h.re n ha) hE').symm

theorem step_or {g : List (List Nat)} {size : Nat} {st : List Bool × List (List Bool) × Int × Bool} (h : RS g size st.1 st.2.1 st.2.2.1) {n : Nat} (hn : n < size) (hn0 : n ≠ 0) :
    RS g size (redStep size st n).1 (redStep size st n).2.1 (redStep size st n).2.2.1 ∧ ((redStep size st n = st ∧ ¬ (st.1.getD n false = true ∧ (predsE size st.2.1 n).length = 1)) ∨ ((redStep size st n).2.2.2 = true ∧ (redStep size st n).2.2.1 = st.2.2.1 - 1)) := by
  unfold redStep
  by_cases hc : st.1.getD n false = true ∧ (predsE size st.2.1 n).length = 1
  · rw [if_pos hc]
    exact ⟨step_rs h hn hn0 hc.1 hc.2, .inr ⟨rfl, rfl⟩⟩
  · rw [if_neg hc]
    exact ⟨h, .inl ⟨rfl, hc⟩⟩
theorem pass_rs {g : List (List Nat)} {size : Nat} : ∀ (l : List Nat) (st : List Bool × List (List Bool) × Int × Bool), (∀ n ∈ l, n < size ∧ n ≠ 0) → RS g size st.1 st.2.1 st.2.2.1 →
    RS g size (l.foldl (redStep size) st).1 (l.foldl (redStep size) st).2.1 (l.foldl (redStep size) st).2.2.1 ∧
    ((l.foldl (redStep size) st = st ∧ ∀ n ∈ l, ¬ (st.1.getD n false = true ∧ (predsE size st.2.1 n).length = 1)) ∨ ((l.foldl (redStep size) st).2.2.2 = true ∧ (l.foldl (redStep size) st).2.2.1 < st.2.2.1))
  | [], st, _, h => ⟨h, .inl ⟨rfl, by simp⟩⟩
  | n :: l, st, hl, h => by
    obtain ⟨h1, h2⟩ := step_or h (hl n (by simp)).1 (hl n (by simp)).2
    obtain ⟨h3, h4⟩ := pass_rs l (redStep size st n) (fun m hm => hl m (by simp [hm])) h1
    rw [List.foldl_cons]
    refine ⟨h3, ?_⟩
    rcases h2 with ⟨h2, h5⟩ | ⟨h2, h5⟩
    · rw [h2] at h4 ⊢
      rcases h4 with ⟨h4, h6⟩ | h4
      · exact .inl ⟨h4, fun m hm => by
          rcases List.mem_cons.1 hm with rfl | hm
          · exact h5
          · exact h6 m hm⟩
      · exact .inr h4
    · rcases h4 with ⟨h4, _⟩ | ⟨h4, h6⟩
      · rw [h4]; exact .inr ⟨h2, by omega⟩
      · exact .inr ⟨h4, by omega⟩

theorem RS.final {g : List (List Nat)} {size : Nat} {al : List Bool} {ed : List (List Bool)} {left : Int} (h : RS g size al ed left) (hs : 0 < size) (hst : ∀ n, n < size → n ≠ 0 → ¬ (al.getD n false = true ∧ (predsE size ed n).length = 1)) : left = 1 ↔ Ranked (RE g) := by
  rw [← h.q]
  have hal : ∀ x, al.getD x false = true → x < size := fun x hx => by
    rw [List.getD_eq_getElem?_getD] at hx
    cases e : al[x]? with
    | none => rw [e] at hx; simp at hx
    | some b => rw [← h.len]; exact (List.getElem?_eq_some_iff.1 e).1
  by_cases hex : ∃ x, x ≠ 0 ∧ al.getD x false = true
  · obtain ⟨x, hx0, hx⟩ := hex
    have hcnt : 2 ≤ al.count true := by
      have h1 := count_set h.z
      have h2 := count_set (al := al.set 0 false) (n := x) (by rw [getD_set, if_neg hx0]; exact hx)
      omega
    refine ⟨fun e => by have := h.cnt; omega, fun hq => ?_⟩
    obtain ⟨v, hv, hv0, p, hp, hu⟩ := stuck (E := EE size ed) (size := size) (alive := (List.range size).filter (fun y => al.getD y false)) (fun u s hus => ⟨hus.1, hus.2.1⟩)
      (fun u s hus => ⟨List.mem_filter.2 ⟨List.mem_range.2 hus.1, (h.ends u s hus).1⟩, List.mem_filter.2 ⟨List.mem_range.2 hus.2.1, (h.ends u s hus).2.1⟩⟩) (fun u hh => (h.ends u u hh).2.2 rfl)
      (fun y hy => ⟨h.re y (List.mem_filter.1 hy).2, List.mem_range.1 (List.mem_filter.1 hy).1⟩) ⟨x, List.mem_filter.2 ⟨List.mem_range.2 (hal x hx), hx⟩, hx0⟩ hq
    have hvs := List.mem_filter.1 hv
    refine absurd ⟨hvs.2, ?_⟩ (hst v (List.mem_range.1 hvs.1) hv0)
    have : predsE size ed v = [p] := filter_one List.nodup_range (List.mem_range.2 hp.1) hp.2.2 (fun q hq hq2 => hu q ⟨List.mem_range.1 hq, hp.2.1, hq2⟩)
    rw [this]; rfl
  · have hno : ∀ u s, ¬ EE size ed u s := by
      intro u s hus
      obtain ⟨h1, h2, h3⟩ := h.ends u s hus
      by_cases hu0 : u = 0
      · exact hex ⟨s, fun e => h3 (by rw [hu0, e]), h2⟩
      · exact hex ⟨u, hu0, h1⟩
    refine ⟨fun _ => ⟨fun _ => 0, fun u s hus => absurd hus (hno u s)⟩, fun _ => ?_⟩
    have h1 := count_set h.z
    have h2 : (al.set 0 false).count true = 0 := by
      rw [List.count_eq_zero]
      intro hm
      obtain ⟨i, hi⟩ := List.getElem?_of_mem hm
      have h3 : (al.set 0 false).getD i false = true := by rw [List.getD_eq_getElem?_getD, hi]; rfl
      rw [getD_set] at h3
      by_cases e : i = 0
      · rw [if_pos e] at h3; simp at h3
      · rw [if_neg e] at h3; exact hex ⟨i, e, h3⟩
    rw [h.cnt]; omega

theorem red_ends {g : List (List Nat)} {size : Nat} (hs : 0 < size) : ∀ (m : Nat) (al : List Bool) (ed : List (List Bool)) (left : Int), left.toNat ≤ m → RS g size al ed left → ∃ k L, RedR size k al ed left L ∧ (L = 1 ↔ Ranked (RE g)) := by
  intro m
  induction m with
  | zero =>
    intro al ed left hm h
    have h1 := count_set h.z
    have h2 := h.cnt
    omega
  | succ m ih =>
    intro al ed left hm h
    obtain ⟨h1, h2⟩ := pass_rs (g := g) (size := size) ((List.range size).drop 1) (al, ed, left, false) (fun n hn => by
      obtain ⟨i, hi⟩ := List.getElem?_of_mem hn
      rw [List.getElem?_drop] at hi
      have hlt := (List.getElem?_eq_some_iff.1 hi).1
      rw [List.length_range] at hlt
      rw [List.getElem?_range hlt] at hi
      have := Option.some.inj hi
      omega) h
    rcases h2 with ⟨h2, h3⟩ | ⟨h2, h3⟩
    · have hp : redPass size al ed left = (al, ed, left, false) := h2
      refine ⟨1, left, .inl ⟨by rw [hp], by rw [hp]⟩, h.final hs (fun n hn hn0 => h3 n ?_)⟩
      refine List.mem_of_getElem? (i := n - 1) ?_
      rw [List.getElem?_drop, List.getElem?_range (by omega)]
      congr 1; omega
    · have h4 := count_set h1.z
      have h5 := h1.cnt
      obtain ⟨k, L, hk, hL⟩ := ih _ _ _ (by dsimp only at h3; omega) h1
      exact ⟨k + 1, L, .inr ⟨h2, hk⟩, hL⟩
end Go.Proofs.Ytpfinkcnklkclaa
