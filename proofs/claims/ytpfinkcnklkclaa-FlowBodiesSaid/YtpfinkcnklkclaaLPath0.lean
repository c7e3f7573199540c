/-
  For the law FlowPaths: the list of immediate dominators, positions, walks that avoid a node.
-/
import Derived.Test.YtpfinkcnklkclaaLDom
import Derived.Test.YtpfinkcnklkclaaLOrd
set_option linter.unusedVariables false
set_option linter.unusedSimpArgs false
namespace Go.Proofs.Ytpfinkcnklkclaa

/-- What the path says: from the entry to n, the nodes xs passed before. -/
def Passed (g : List (List Nat)) (xs : List Nat) (n : Nat) : Prop := Reach (GE g) n ∧ ∀ d, d ∉ xs → d ≠ n → Walk (GE g) (· ≠ d) 0 n
theorem Passed.start (g : List (List Nat)) : Passed g [] 0 := ⟨.refl trivial, fun d _ h => .refl (Ne.symm h)⟩
theorem Passed.step {g : List (List Nat)} {xs : List Nat} {n s : Nat} (h : Passed g xs n) (hs : s ∈ succ g n) : Passed g (xs ++ [n]) s := by
  refine ⟨.snoc h.1 hs trivial, fun d hd hds => ?_⟩
  simp only [List.mem_append, List.mem_singleton, not_or] at hd
  exact .snoc (h.2 d hd.1 hd.2) hs (Ne.symm hds)

/-- The immediate dominator of a node on the path. -/
theorem Passed.idom {g : List (List Nat)} (hv : ValidG g) {ns : List Nat} (hO : OrdF g ns) {xs : List Nat} {n : Nat} (h : Passed g xs n) :
    (n = 0 → (idomL g)[n]? = some (-1)) ∧ (n ≠ 0 → ∃ d : Nat, (idomL g)[n]? = some (d : Int) ∧ d < g.length ∧ d ∈ xs ∧ d ∈ 0 :: ns ∧ posOf (0 :: ns) d < posOf (0 :: ns) n) := by
  obtain ⟨D, hD⟩ := hO.dom
  have hno := (hO.mem n).2 h.1
  have hnl : n < D.length := by rw [hD.wf.len]; exact hO.lt n hno
  rw [← idom_eq hv hO hD]
  refine ⟨fun e => by subst e; rw [List.getElem?_set_self hnl], fun e => ?_⟩
  obtain ⟨d, hd⟩ := hD.all n hno
  obtain ⟨hlt, hds⟩ := hD.wf.up n d e hd
  have hdo := hD.wf.sub d hds
  refine ⟨d, by rw [List.getElem?_set_ne (Ne.symm e)]; exact hd, hO.lt d hdo, ?_, hdo, hlt⟩
  refine Classical.byContradiction fun hx => ?_
  exact (hD.anc n hno d).1 (.step hd (.refl _)) (h.2 d hx (fun e2 => by rw [e2] at hlt; omega))

/-- The positions, as the law lays them. -/
def atL (n : Nat) (xs : List Nat) : List Int := xs.zipIdx.foldl (fun s p => s.set p.1 (p.2 : Int)) (List.replicate n 0)
theorem atL_snoc (n : Nat) (xs : List Nat) (x : Nat) : atL n (xs ++ [x]) = (atL n xs).set x (xs.length : Int) := by simp [atL, List.zipIdx_append]
theorem atL_len (n : Nat) (xs : List Nat) : (atL n xs).length = n := by
  unfold atL
  have : ∀ (l : List (Nat × Nat)) (s : List Int), (l.foldl (fun s p => s.set p.1 (p.2 : Int)) s).length = s.length := by
    intro l
    induction l with
    | nil => intros; rfl
    | cons a l ih => intro s; rw [List.foldl_cons, ih]; simp
  rw [this]; simp
theorem atL_get {n : Nat} : ∀ (m : Nat) (xs : List Nat), xs.length = m → xs.Nodup → (∀ x ∈ xs, x < n) → ∀ (k x : Nat), xs[k]? = some x → (atL n xs)[x]? = some (k : Int) := by
  intro m
  induction m with
  | zero => intro xs hl _ _ k x hk; rw [List.eq_nil_of_length_eq_zero hl] at hk; simp at hk
  | succ m ih =>
    intro xs hl hn hx k x hk
    rcases List.eq_nil_or_concat xs with rfl | ⟨ys, y, rfl⟩
    · simp at hl
    · rw [List.concat_eq_append] at hl hn hx hk ⊢
      have hyl : ys.length = m := by simpa using hl
      have hn' := List.nodup_append.1 hn
      rw [atL_snoc]
      have hxl : x < (atL n ys).length := by rw [atL_len]; exact hx x (List.mem_of_getElem? hk)
      by_cases hkl : k < ys.length
      · rw [List.getElem?_append_left hkl] at hk
        have hne : y ≠ x := fun e => hn'.2.2 x (List.mem_of_getElem? hk) y (by simp) e.symm
        rw [List.getElem?_set_ne hne]
        exact ih ys hyl hn'.1 (fun z hz => hx z (by simp [hz])) k x hk
      · rw [List.getElem?_append_right (by omega)] at hk
        have hk2 : k = ys.length := by
          have := (List.getElem?_eq_some_iff.1 hk).1
          simp at this; omega
        subst hk2
        simp at hk
        subst hk
        rw [List.getElem?_set_self hxl]
end Go.Proofs.Ytpfinkcnklkclaa
