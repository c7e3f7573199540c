/-
  Maps from int that a call has made, as functions: what the key x holds. For elements of an integer kind and for bools.
-/
import Derived.Test.YtpfinkcnklkclaaMem
import Derived.Maps.OwnSet
import Derived.Maps.OwnOps
set_option linter.unusedVariables false
set_option linter.unusedSimpArgs false
namespace Go.Proofs.Ytpfinkcnklkclaa
open Go.RowKit Go.Maps

theorem keyedInt : Keyed Try.prog 3 := int_keyed Try.underlying3
theorem wf64 {x : Int} (h : -9223372036854775808 ≤ x ∧ x ≤ 9223372036854775807) : (Lit.int .i64 x).wf = true := by simp [Lit.wf, IntKind.min, IntKind.max, IntKind.signed, IntKind.bits]; omega
theorem keyInt {x : Int} (h : -9223372036854775808 ≤ x ∧ x ≤ 9223372036854775807) : keyOf Try.prog 3 (.int .i64 x) = some (.int .i64 x) := keyOf_int_mk Try.underlying3 (wf64 h)
theorem zeroInt (w : World) : (zeroValue 3).run Try.prog w = .ok (.int .i64 0) w := by kernel_rfl
theorem zeroBool (w : World) : (zeroValue 4).run Try.prog w = .ok (.bool false) w := by kernel_rfl

/-- Block b is a map from int to int, of at most n entries, that holds f x at x (0 where there is nothing). -/
def MapII (w : World) (b n : Nat) (f : Int → Int) : Prop :=
  ∃ D : DataW Unit, w.ownsMap Try.prog 3 (plainElem Try.prog 3) b n D ∧ ∀ x, (Lit.int .i64 x).wf = true → D.atKey (.int .i64 x) (.lit (.int .i64 0)) = .lit (.int .i64 (f x))
def MapIB (w : World) (b n : Nat) (f : Int → Bool) : Prop :=
  ∃ D : DataW Unit, w.ownsMap Try.prog 3 (plainElem Try.prog 4) b n D ∧ ∀ x, (Lit.int .i64 x).wf = true → D.atKey (.int .i64 x) (.lit (.bool false)) = .lit (.bool (f x))

theorem MapII.made (w : World) : MapII (w.alloc (.map #[] 0)) w.heap.size 0 (fun _ => 0) := ⟨_, World.ownsMap_made _ _ _ _, fun _ _ => rfl⟩
theorem MapIB.made (w : World) : MapIB (w.alloc (.map #[] 0)) w.heap.size 0 (fun _ => false) := ⟨_, World.ownsMap_made _ _ _ _, fun _ _ => rfl⟩
theorem MapII.lt {w : World} {b n : Nat} {f : Int → Int} (h : MapII w b n f) : b < w.heap.size := let ⟨_, h, _⟩ := h; h.lt
theorem MapIB.lt {w : World} {b n : Nat} {f : Int → Bool} (h : MapIB w b n f) : b < w.heap.size := let ⟨_, h, _⟩ := h; h.lt
theorem MapII.same {w w' : World} {b n : Nat} {f : Int → Int} (h : MapII w b n f) (hb : w'.heap[b]? = w.heap[b]?) : MapII w' b n f := by
  obtain ⟨D, ⟨es, clock, h1, h2⟩, h3⟩ := h
  exact ⟨D, ⟨es, clock, hb.trans h1, h2⟩, h3⟩
theorem MapIB.same {w w' : World} {b n : Nat} {f : Int → Bool} (h : MapIB w b n f) (hb : w'.heap[b]? = w.heap[b]?) : MapIB w' b n f := by
  obtain ⟨D, ⟨es, clock, h1, h2⟩, h3⟩ := h
  exact ⟨D, ⟨es, clock, hb.trans h1, h2⟩, h3⟩
/-- A map's block is no row. -/
theorem MapII.ne {w : World} {b n : Nat} {f : Int → Int} (h : MapII w b n f) {b' : Nat} {c : Array Value} {t : TypeId} {z : Nat × Nat} (hb : w.heap[b']? = some (.cells c t z)) : b ≠ b' := by
  obtain ⟨D, ⟨es, clock, h1, h2⟩, h3⟩ := h
  rintro rfl; rw [h1] at hb; simp at hb
theorem MapIB.ne {w : World} {b n : Nat} {f : Int → Bool} (h : MapIB w b n f) {b' : Nat} {c : Array Value} {t : TypeId} {z : Nat × Nat} (hb : w.heap[b']? = some (.cells c t z)) : b ≠ b' := by
  obtain ⟨D, ⟨es, clock, h1, h2⟩, h3⟩ := h
  rintro rfl; rw [h1] at hb; simp at hb

/-- The look-up's run. -/
theorem MapII.look {w : World} {b n : Nat} {f : Int → Int} (h : MapII w b n f) {x : Int} (hx : -9223372036854775808 ≤ x ∧ x ≤ 9223372036854775807) :
    (Instr.lookup 67 (.map (some b)) (.int .i64 x) false).run Try.prog w = .ok (.int .i64 (f x)) w ∧ (Lit.int .i64 (f x)).wf = true := by
  obtain ⟨D, h, hf⟩ := h
  obtain ⟨c, hrun, hat, hwc⟩ := h.lookup_int keyedInt Try.underlying67 Try.underlying3 (zeroInt w) (keyInt hx)
  rw [hf x (wf64 hx)] at hat
  simp only [DataW.lit.injEq, Lit.int.injEq, true_and] at hat
  subst hat
  exact ⟨hrun, hwc⟩

theorem plainElem_bool_inv {H : Type} {P : Program} {e : TypeId} (he : P.underlying e = some .bool) {v : Value} {z : DataW H × List MemPlace} (h : plainElem P e v = some z) : ∃ a, v = .bool a ∧ z = (.lit (.bool a), []) := by
  unfold plainElem at h
  rw [he] at h
  cases v <;> simp at h
  exact ⟨_, rfl, h.symm⟩

theorem MapIB.look {w : World} {b n : Nat} {f : Int → Bool} (h : MapIB w b n f) {x : Int} (hx : -9223372036854775808 ≤ x ∧ x ≤ 9223372036854775807) :
    (Instr.lookup 62 (.map (some b)) (.int .i64 x) false).run Try.prog w = .ok (.bool (f x)) w := by
  obtain ⟨D, h, hf⟩ := h
  obtain ⟨v, ps, hrun, hv⟩ := h.lookup keyedInt Try.underlying62 (zeroBool w) (plainElem_bool Try.underlying4 false) (keyInt hx)
  rw [hf x (wf64 hx)] at hv
  obtain ⟨c, rfl, hc⟩ := plainElem_bool_inv Try.underlying4 hv
  simp only [Prod.mk.injEq, DataW.lit.injEq, Lit.bool.injEq] at hc
  rw [← hc.1] at hrun
  exact hrun

/-- The store, at the operation. -/
theorem wpList_store_ii {ops : Array Oper} {rest : List Oper} {o : Oper} {a : Act} {Q : Exit → Act → World → Prop} {w : World} (hg : o.guard = none) (m x v : Operand)
    (hop : o.op = .mapUpdate 67 m x v) {b n : Nat} {f : Int → Int} (h : MapII w b n f) (hn : n < 9000000000000000000) (kx vv : Int) (hm : a.eval m = .map (some b)) (hx : a.eval x = .int .i64 kx) (hv : a.eval v = .int .i64 vv)
    (hkx : -9223372036854775808 ≤ kx ∧ kx ≤ 9223372036854775807) (hvv : -9223372036854775808 ≤ vv ∧ vv ≤ 9223372036854775807)
    (hK : ∀ w', MapII w' b (n + 1) (fun y => if y = kx then vv else f y) → w.grownBy w' (some b) → wpList Try.prog ops Q rest (a.put o.dst undef) w') : wpList Try.prog ops Q (o :: rest) a w := by
  obtain ⟨D, h, hf⟩ := h
  refine wpList_mapUpdate_own (H := Unit) w hg m x v 67 hop 3 3 keyedInt Try.underlying67 _ b n D hm h (by unfold maxLen; omega) _ _ _ hx hv (keyInt hkx) _ [] (plainElem_int Try.underlying3 (wf64 hvv)) ?_
  intro w1 hown hgrow
  refine hK w1 ⟨_, hown, fun y hy => ?_⟩ hgrow
  have hkl : WideAt.IsKeyLit (.int .i64 kx) := keyedInt.key (keyInt hkx)
  by_cases e : y = kx
  · subst e; simp only [if_true]; exact Maps.atKey_put_same h.isMap hkl _ _
  · simp only [if_neg e]
    rw [Maps.atKey_put_other (by simpa using e)]
    exact hf y hy
theorem wpList_store_ib {ops : Array Oper} {rest : List Oper} {o : Oper} {a : Act} {Q : Exit → Act → World → Prop} {w : World} (hg : o.guard = none) (m x v : Operand)
    (hop : o.op = .mapUpdate 62 m x v) {b n : Nat} {f : Int → Bool} (h : MapIB w b n f) (hn : n < 9000000000000000000) (kx : Int) (vv : Bool) (hm : a.eval m = .map (some b)) (hx : a.eval x = .int .i64 kx) (hv : a.eval v = .bool vv)
    (hkx : -9223372036854775808 ≤ kx ∧ kx ≤ 9223372036854775807)
    (hK : ∀ w', MapIB w' b (n + 1) (fun y => if y = kx then vv else f y) → w.grownBy w' (some b) → wpList Try.prog ops Q rest (a.put o.dst undef) w') : wpList Try.prog ops Q (o :: rest) a w := by
  obtain ⟨D, h, hf⟩ := h
  refine wpList_mapUpdate_own (H := Unit) w hg m x v 62 hop 3 4 keyedInt Try.underlying62 _ b n D hm h (by unfold maxLen; omega) _ _ _ hx hv (keyInt hkx) _ [] (plainElem_bool Try.underlying4 vv) ?_
  intro w1 hown hgrow
  refine hK w1 ⟨_, hown, fun y hy => ?_⟩ hgrow
  have hkl : WideAt.IsKeyLit (.int .i64 kx) := keyedInt.key (keyInt hkx)
  by_cases e : y = kx
  · subst e; simp only [if_true]; exact Maps.atKey_put_same h.isMap hkl _ _
  · simp only [if_neg e]
    rw [Maps.atKey_put_other (by simpa using e)]
    exact hf y hy
end Go.Proofs.Ytpfinkcnklkclaa
