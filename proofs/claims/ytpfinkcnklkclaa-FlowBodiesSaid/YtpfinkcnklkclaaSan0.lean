/-
  What the walk of sanity holds on to; slices out of literals.
-/
import Derived.Test.YtpfinkcnklkclaaCyc
import Derived.Test.YtpfinkcnklkclaaMod
import Derived.Test.YtpfinkcnklkclaaAns
set_option linter.unusedVariables false
set_option linter.unusedSimpArgs false
namespace Go.Proofs.Ytpfinkcnklkclaa
open Go.RowKit

theorem sliceOf_new {α : Type} {enc : α → Value} {w : World} {b C : Nat} {t : TypeId} {xs : List α} (h : w.heap[b]? = some (.cells (xs.map enc).toArray t (0, 0))) (hC : w.heap.size ≤ C) : SliceOf enc w C (.slice (some ⟨b, 0, none⟩) xs.length xs.length) xs :=
  ⟨_, _, rfl, Nat.le_refl _, fun k x hk => ⟨b, 0, rfl, Nat.lt_of_lt_of_le (lt_of_block h) hC, by rw [Nat.zero_add]; exact cell_of_blk h (by simp [hk])⟩⟩
theorem sliceOf_nilN {α : Type} {enc : α → Value} {w : World} {C : Nat} : SliceOf enc w C (.slice none 0 0) ([] : List α) := ⟨none, 0, rfl, Nat.le_refl _, fun k x hk => by simp at hk⟩
theorem rowsOf_new {w : World} {b C : Nat} {t : TypeId} {vs : List Value} {g : List (List Nat)} (h : w.heap[b]? = some (.cells vs.toArray t (0, 0))) (hC : w.heap.size ≤ C) (hl : vs.length = g.length)
    (hr : ∀ (k : Nat) (v : Value) (row : List Nat), vs[k]? = some v → g[k]? = some row → SliceOf encNat w C v row) : RowsOf encNat w C (.slice (some ⟨b, 0, none⟩) g.length g.length) g :=
  ⟨vs, by rw [← hl]; exact sliceOf_new (enc := id) (by simpa using h) hC, hl, hr⟩

/-- A variable that holds a valid graph. -/
def Var (w : World) (b : Nat) (sv : Value) (g : List (List Nat)) : Prop := w.heap[b]? = some (.cells #[sv] 24 (0, 0)) ∧ GraphIn w sv g
theorem Var.below {w w' : World} {b : Nat} {sv : Value} {g : List (List Nat)} (h : Var w b sv g) (hb : Below w.heap.size w w') : Var w' b sv g := ⟨below_blk hb h.1 (lt_of_block h.1), h.2.below hb⟩
theorem Var.cell {w : World} {b : Nat} {sv : Value} {g : List (List Nat)} (h : Var w b sv g) : w.cell? ⟨b, 0, none⟩ = some sv := cell_of_blk h.1 (by simp)
theorem Var.mk' {w w' : World} {sv : Value} {g : List (List Nat)} (h : GraphIn w sv g) (hb : Below w.heap.size w w') : Var (w'.alloc (.cells #[sv] 24)) w'.heap.size sv g :=
  ⟨new_at rfl, (h.below hb).below ((Below.refl _ _).alloc (Nat.le_refl _) _)⟩

theorem ints_true {w : World} {u v : Value} {xs ys : List Int} (hx : SliceOf encInt w w.heap.size u xs) (hy : SliceOf encInt w w.heap.size v ys) (bx : xs.length ≤ 2000000) (he : xs = ys) :
    Calls Try.prog 20 #[u, v] w fun e w' => e = .returned (.bool true) ∧ Below w.heap.size w w' :=
  (ints_any w _ _ u v xs ys hx hy (by omega) (by rw [← he]; omega)).mono fun e w' ⟨h1, n, h2⟩ => ⟨by rw [h1, decide_eq_true he], by rw [h2]; exact below_drewN0 _ _ _⟩
theorem intsN_true {w : World} {u v : Value} {xs ys : List Nat} (hx : SliceOf encNat w w.heap.size u xs) (hy : SliceOf encNat w w.heap.size v ys) (bx : xs.length ≤ 2000000) (he : xs = ys) :
    Calls Try.prog 20 #[u, v] w fun e w' => e = .returned (.bool true) ∧ Below w.heap.size w w' :=
  (ints_nat w _ _ u v xs ys hx hy (by omega) (by rw [← he]; omega)).mono fun e w' ⟨h1, n, h2⟩ => ⟨by rw [h1, decide_eq_true he], by rw [h2]; exact below_drewN0 _ _ _⟩
theorem cycles_true {w : World} {u v : Value} {xs ys : List (Nat × List Nat)} (hx : CycOf w w.heap.size u xs) (hy : CycOf w w.heap.size v ys) (bx : xs.length ≤ 2000000) (hbx : ∀ c ∈ xs, c.2.length ≤ 2000000) (he : xs = ys) :
    Calls Try.prog 25 #[u, v] w fun e w' => e = .returned (.bool true) ∧ Below w.heap.size w w' :=
  (cycles_any w _ _ u v xs ys hx hy bx (by rw [← he]; exact bx) hbx (by rw [← he]; exact hbx)).mono fun e w' ⟨h1, n, h2⟩ => ⟨by rw [h1, decide_eq_true he], by rw [h2]; exact below_drewN0 _ _ _⟩

def gA : List (List Nat) := [[1, 2], [3], [3], []]
def gB : List (List Nat) := [[1], [2, 3], [1], []]
def gC : List (List Nat) := [[1, 2], [2], [1]]
def gD : List (List Nat) := [[0], [0]]
theorem sA1 : orderL gA = [0, 2, 1, 3] := by decide
theorem sA2 : idomL gA = [-1, 0, 0, 0] := by decide
theorem sB1 : loopsL gB = [(1, [1, 2])] := by decide
theorem sB2 : redF gB = true := by decide
theorem sC1 : idomL gC = [-1, 0, 0] := by decide
theorem sC2 : loopsL gC = [] := by decide
theorem sC3 : redF gC = false := by decide
theorem sD1 : loopsL gD = [(0, [0])] := by decide
theorem sD2 : idomL gD = [-1, -1] := by decide
theorem inA (w : World) : GraphIn ((((w.alloc (.cells #[.int .i64 1, .int .i64 2] 3)).alloc (.cells #[.int .i64 3] 3)).alloc (.cells #[.int .i64 3] 3)).alloc (.cells #[.slice (some ⟨w.heap.size, 0, none⟩) 2 2, .slice (some ⟨w.heap.size + 1, 0, none⟩) 1 1, .slice (some ⟨w.heap.size + 1 + 1, 0, none⟩) 1 1, .slice none 0 0] 29)) (.slice (some ⟨w.heap.size + 1 + 1 + 1, 0, none⟩) 4 4) gA := by
  refine ⟨rowsOf_new (t := 29) (vs := [.slice (some ⟨w.heap.size, 0, none⟩) 2 2, .slice (some ⟨w.heap.size + 1, 0, none⟩) 1 1, .slice (some ⟨w.heap.size + 1 + 1, 0, none⟩) 1 1, .slice none 0 0]) (g := gA) (new_at (by simp)) (Nat.le_refl _) rfl ?_, ⟨by decide, by decide⟩, by decide, by decide⟩
  intro k v row hv hg
  match k, hv, hg with
  | 0, hv, hg =>
    simp [gA] at hv hg
    subst hv; subst hg
    exact sliceOf_new (t := 3) (xs := [1, 2]) (alloc_blk (alloc_blk (alloc_blk (new_at (by simp))))) (Nat.le_refl _)
  | 1, hv, hg =>
    simp [gA] at hv hg
    subst hv; subst hg
    exact sliceOf_new (t := 3) (xs := [3]) (alloc_blk (alloc_blk (new_at (by simp)))) (Nat.le_refl _)
  | 2, hv, hg =>
    simp [gA] at hv hg
    subst hv; subst hg
    exact sliceOf_new (t := 3) (xs := [3]) (alloc_blk (new_at (by simp))) (Nat.le_refl _)
  | 3, hv, hg =>
    simp [gA] at hv hg
    subst hv; subst hg
    exact sliceOf_nilN
  | k + 4, hv, hg => simp at hv
theorem inB (w : World) : GraphIn ((((w.alloc (.cells #[.int .i64 1] 3)).alloc (.cells #[.int .i64 2, .int .i64 3] 3)).alloc (.cells #[.int .i64 1] 3)).alloc (.cells #[.slice (some ⟨w.heap.size, 0, none⟩) 1 1, .slice (some ⟨w.heap.size + 1, 0, none⟩) 2 2, .slice (some ⟨w.heap.size + 1 + 1, 0, none⟩) 1 1, .slice none 0 0] 29)) (.slice (some ⟨w.heap.size + 1 + 1 + 1, 0, none⟩) 4 4) gB := by
  refine ⟨rowsOf_new (t := 29) (vs := [.slice (some ⟨w.heap.size, 0, none⟩) 1 1, .slice (some ⟨w.heap.size + 1, 0, none⟩) 2 2, .slice (some ⟨w.heap.size + 1 + 1, 0, none⟩) 1 1, .slice none 0 0]) (g := gB) (new_at (by simp)) (Nat.le_refl _) rfl ?_, ⟨by decide, by decide⟩, by decide, by decide⟩
  intro k v row hv hg
  match k, hv, hg with
  | 0, hv, hg =>
    simp [gB] at hv hg
    subst hv; subst hg
    exact sliceOf_new (t := 3) (xs := [1]) (alloc_blk (alloc_blk (alloc_blk (new_at (by simp))))) (Nat.le_refl _)
  | 1, hv, hg =>
    simp [gB] at hv hg
    subst hv; subst hg
    exact sliceOf_new (t := 3) (xs := [2, 3]) (alloc_blk (alloc_blk (new_at (by simp)))) (Nat.le_refl _)
  | 2, hv, hg =>
    simp [gB] at hv hg
    subst hv; subst hg
    exact sliceOf_new (t := 3) (xs := [1]) (alloc_blk (new_at (by simp))) (Nat.le_refl _)
  | 3, hv, hg =>
    simp [gB] at hv hg
    subst hv; subst hg
    exact sliceOf_nilN
  | k + 4, hv, hg => simp at hv
theorem inC (w : World) : GraphIn ((((w.alloc (.cells #[.int .i64 1, .int .i64 2] 3)).alloc (.cells #[.int .i64 2] 3)).alloc (.cells #[.int .i64 1] 3)).alloc (.cells #[.slice (some ⟨w.heap.size, 0, none⟩) 2 2, .slice (some ⟨w.heap.size + 1, 0, none⟩) 1 1, .slice (some ⟨w.heap.size + 1 + 1, 0, none⟩) 1 1] 29)) (.slice (some ⟨w.heap.size + 1 + 1 + 1, 0, none⟩) 3 3) gC := by
  refine ⟨rowsOf_new (t := 29) (vs := [.slice (some ⟨w.heap.size, 0, none⟩) 2 2, .slice (some ⟨w.heap.size + 1, 0, none⟩) 1 1, .slice (some ⟨w.heap.size + 1 + 1, 0, none⟩) 1 1]) (g := gC) (new_at (by simp)) (Nat.le_refl _) rfl ?_, ⟨by decide, by decide⟩, by decide, by decide⟩
  intro k v row hv hg
  match k, hv, hg with
  | 0, hv, hg =>
    simp [gC] at hv hg
    subst hv; subst hg
    exact sliceOf_new (t := 3) (xs := [1, 2]) (alloc_blk (alloc_blk (alloc_blk (new_at (by simp))))) (Nat.le_refl _)
  | 1, hv, hg =>
    simp [gC] at hv hg
    subst hv; subst hg
    exact sliceOf_new (t := 3) (xs := [2]) (alloc_blk (alloc_blk (new_at (by simp)))) (Nat.le_refl _)
  | 2, hv, hg =>
    simp [gC] at hv hg
    subst hv; subst hg
    exact sliceOf_new (t := 3) (xs := [1]) (alloc_blk (new_at (by simp))) (Nat.le_refl _)
  | k + 3, hv, hg => simp at hv
theorem inD (w : World) : GraphIn (((w.alloc (.cells #[.int .i64 0] 3)).alloc (.cells #[.int .i64 0] 3)).alloc (.cells #[.slice (some ⟨w.heap.size, 0, none⟩) 1 1, .slice (some ⟨w.heap.size + 1, 0, none⟩) 1 1] 29)) (.slice (some ⟨w.heap.size + 1 + 1, 0, none⟩) 2 2) gD := by
  refine ⟨rowsOf_new (t := 29) (vs := [.slice (some ⟨w.heap.size, 0, none⟩) 1 1, .slice (some ⟨w.heap.size + 1, 0, none⟩) 1 1]) (g := gD) (new_at (by simp)) (Nat.le_refl _) rfl ?_, ⟨by decide, by decide⟩, by decide, by decide⟩
  intro k v row hv hg
  match k, hv, hg with
  | 0, hv, hg =>
    simp [gD] at hv hg
    subst hv; subst hg
    exact sliceOf_new (t := 3) (xs := [0]) (alloc_blk (alloc_blk (new_at (by simp)))) (Nat.le_refl _)
  | 1, hv, hg =>
    simp [gD] at hv hg
    subst hv; subst hg
    exact sliceOf_new (t := 3) (xs := [0]) (alloc_blk (new_at (by simp))) (Nat.le_refl _)
  | k + 2, hv, hg => simp at hv
end Go.Proofs.Ytpfinkcnklkclaa
