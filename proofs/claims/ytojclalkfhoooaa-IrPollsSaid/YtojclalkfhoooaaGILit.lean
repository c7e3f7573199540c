/-
  small: a program of one function without arguments. Programs that a law writes down: rows of operations, edges, blocks in memory.
-/
import Derived.Test.YtojclalkfhoooaaIEval2
set_option linter.unusedVariables false
set_option linter.unusedSimpArgs false
namespace Go.Proofs.Ytojclalkfhoooaa
open Go.RowKit

theorem i64_zero : I64 0 := ⟨by omega, by omega⟩
theorem i64_neg : I64 (-1) := ⟨by omega, by omega⟩
def smallP (t : ITerm) (ops : List IOp) : IProg := ⟨[[⟨[], ops, t⟩]], [0], 0, -1, [], []⟩
/-- A program that a call has made. -/
def RetProg (w : World) (p : IProg) (e : Ending) (w' : World) : Prop := ∃ V, e = .returned (progV V p) ∧ ProgIn w' w'.heap.size V p ∧ Below w.heap.size w w'
theorem Elems.nil {α : Type} {sz : Nat} {R : World → Nat → Nat → Nat → α → Prop} {w : World} {B : Nat} : Elems sz R w B (.slice none 0 0) [] :=
  ⟨none, 0, rfl, Nat.le_refl _, by omega, fun k x hk => by simp at hk⟩
theorem Elems.one {α : Type} {sz : Nat} {R : World → Nat → Nat → Nat → α → Prop} {w : World} {B b : Nat} {x : α} (hb : b < B) (h : R w B b 0 x) : Elems sz R w B (.slice (some ⟨b, 0, none⟩) 1 1) [x] :=
  ⟨_, 1, rfl, Nat.le_refl _, by omega, fun k y hk => by
    have hk0 : k = 0 := by have := (List.getElem?_eq_some_iff.1 hk).1; simp at this; omega
    subst hk0
    cases hk
    exact ⟨b, 0, rfl, hb, by simpa using h⟩⟩
set_option maxHeartbeats 1000000 in
set_option maxRecDepth 100000 in
theorem small_any {w : World} {tk ta : Int} (ht : I64 tk ∧ I64 ta) {eds : List IEdge} {tv : Value} (hto : EdgesIn w w.heap.size tv eds) {ops : List IOp} {ov : Value} (hov : OpsIn w w.heap.size ov ops) :
    Calls Try.prog 32 #[.agg #[.int .i64 tk, .int .i64 ta, tv], ov] w (RetProg w (smallP ⟨tk, ta, eds⟩ ops)) := by
  obtain ⟨ea, ec, rfl, _, _⟩ := hto.form
  obtain ⟨oa, oc, rfl, _, _⟩ := hov.form
  have HTO := Lib.hid (And.intro ht (And.intro hto hov))
  clear hto hov ht
  go_enter Try.func32, Try.ntmps32
  go_wp2
  have hb : Below w.heap.size w (((((w.alloc (.cells #[.int .i64 tk, .int .i64 ta, .slice ea eds.length ec] 47)).alloc (.cells #[.slice (some ⟨w.heap.size + 1 + 1 + 1, 0, none⟩) 1 1, .slice (some ⟨w.heap.size + 1 + 1 + 1 + 1, 0, none⟩) 1 1, .int .i64 0, .int .i64 (-1), .slice none 0 0, .slice none 0 0] 29)).alloc (.cells #[.slice none 0 0, .slice oa ops.length oc, .int .i64 tk, .int .i64 ta, .slice ea eds.length ec] 49)).alloc (.cells #[.slice (some ⟨w.heap.size + 1 + 1, 0, none⟩) 1 1] 43)).alloc (.cells #[.int .i64 0] 3)) := (((((Below.refl _ _).alloc (Nat.le_refl _) _).alloc (by simp) _).alloc (by simp; omega) _).alloc (by simp; omega) _).alloc (by simp; omega) _
  have h1 : (((((w.alloc (.cells #[.int .i64 tk, .int .i64 ta, .slice ea eds.length ec] 47)).alloc (.cells #[.slice (some ⟨w.heap.size + 1 + 1 + 1, 0, none⟩) 1 1, .slice (some ⟨w.heap.size + 1 + 1 + 1 + 1, 0, none⟩) 1 1, .int .i64 0, .int .i64 (-1), .slice none 0 0, .slice none 0 0] 29)).alloc (.cells #[.slice none 0 0, .slice oa ops.length oc, .int .i64 tk, .int .i64 ta, .slice ea eds.length ec] 49)).alloc (.cells #[.slice (some ⟨w.heap.size + 1 + 1, 0, none⟩) 1 1] 43)).alloc (.cells #[.int .i64 0] 3)).heap[w.heap.size + 1 + 1]? = some (.cells #[.slice none 0 0, .slice oa ops.length oc, .int .i64 tk, .int .i64 ta, .slice ea eds.length ec] 49 (0, 0)) := alloc_blk (alloc_blk (new_at (by simp)))
  have h2 : (((((w.alloc (.cells #[.int .i64 tk, .int .i64 ta, .slice ea eds.length ec] 47)).alloc (.cells #[.slice (some ⟨w.heap.size + 1 + 1 + 1, 0, none⟩) 1 1, .slice (some ⟨w.heap.size + 1 + 1 + 1 + 1, 0, none⟩) 1 1, .int .i64 0, .int .i64 (-1), .slice none 0 0, .slice none 0 0] 29)).alloc (.cells #[.slice none 0 0, .slice oa ops.length oc, .int .i64 tk, .int .i64 ta, .slice ea eds.length ec] 49)).alloc (.cells #[.slice (some ⟨w.heap.size + 1 + 1, 0, none⟩) 1 1] 43)).alloc (.cells #[.int .i64 0] 3)).heap[w.heap.size + 1 + 1 + 1]? = some (.cells #[.slice (some ⟨w.heap.size + 1 + 1, 0, none⟩) 1 1] 43 (0, 0)) := alloc_blk (new_at (by simp))
  have h3 : (((((w.alloc (.cells #[.int .i64 tk, .int .i64 ta, .slice ea eds.length ec] 47)).alloc (.cells #[.slice (some ⟨w.heap.size + 1 + 1 + 1, 0, none⟩) 1 1, .slice (some ⟨w.heap.size + 1 + 1 + 1 + 1, 0, none⟩) 1 1, .int .i64 0, .int .i64 (-1), .slice none 0 0, .slice none 0 0] 29)).alloc (.cells #[.slice none 0 0, .slice oa ops.length oc, .int .i64 tk, .int .i64 ta, .slice ea eds.length ec] 49)).alloc (.cells #[.slice (some ⟨w.heap.size + 1 + 1, 0, none⟩) 1 1] 43)).alloc (.cells #[.int .i64 0] 3)).heap[w.heap.size + 1 + 1 + 1 + 1]? = some (.cells #[.int .i64 0] 3 (0, 0)) := new_at (by simp)
  refine bodyPost_ret (v := .agg #[.slice (some ⟨w.heap.size + 1 + 1 + 1, 0, none⟩) 1 1, .slice (some ⟨w.heap.size + 1 + 1 + 1 + 1, 0, none⟩) 1 1, .int .i64 0, .int .i64 (-1), .slice none 0 0, .slice none 0 0]) ?_ rfl ?_
  · rw [results_cell1 rfl]
    go_simp
  · generalize hW : ((((w.alloc (.cells #[.int .i64 tk, .int .i64 ta, .slice ea eds.length ec] 47)).alloc (.cells #[.slice (some ⟨w.heap.size + 1 + 1 + 1, 0, none⟩) 1 1, .slice (some ⟨w.heap.size + 1 + 1 + 1 + 1, 0, none⟩) 1 1, .int .i64 0, .int .i64 (-1), .slice none 0 0, .slice none 0 0] 29)).alloc (.cells #[.slice none 0 0, .slice oa ops.length oc, .int .i64 tk, .int .i64 ta, .slice ea eds.length ec] 49)).alloc (.cells #[.slice (some ⟨w.heap.size + 1 + 1, 0, none⟩) 1 1] 43)).alloc (.cells #[.int .i64 0] 3) = W at *
    have hsz := lt_of_block h3
    have hE := (HTO.out.2.1.below edgeR_stable hb).mono edgeR_stable hb.size
    have hO := (HTO.out.2.2.below opR_stable hb).mono opR_stable hb.size
    refine ⟨⟨.slice (some ⟨w.heap.size + 1 + 1 + 1, 0, none⟩) 1 1, .slice (some ⟨w.heap.size + 1 + 1 + 1 + 1, 0, none⟩) 1 1, .slice none 0 0, .slice none 0 0⟩, rfl, ⟨?_, ?_, Elems.nil, Elems.nil, i64_zero, i64_neg⟩, hb⟩
    · refine Elems.one (by omega) ⟨.slice (some ⟨w.heap.size + 1 + 1, 0, none⟩) 1 1, cell_of_blk h2 (by simp), Elems.one (by omega) ?_⟩
      exact ⟨cell_of_blk h1 (by simp), cell_of_blk h1 (by simp), HTO.out.1, .slice none 0 0, .slice oa ops.length oc, .slice ea eds.length ec, cell_of_blk h1 (by simp), cell_of_blk h1 (by simp), cell_of_blk h1 (by simp), Elems.nil, hO, hE⟩
    · exact Elems.one (by omega) ⟨cell_of_blk h3 (by simp), ⟨by decide, by decide⟩⟩
end Go.Proofs.Ytojclalkfhoooaa
set_option linter.unusedVariables false
set_option linter.unusedSimpArgs false
namespace Go.Proofs.Ytojclalkfhoooaa
open Go.RowKit

theorem flat_get {α : Type} (f : α → List Value) (n : Nat) (hf : ∀ a, (f a).length = n) : ∀ (l : List α) (k : Nat) (a : α), l[k]? = some a → ∀ j, j < n → (l.flatMap f)[k * n + j]? = (f a)[j]?
  | [], k, a, hk, _, _ => by simp at hk
  | x :: l, 0, a, hk, j, hj => by
    cases hk
    rw [List.flatMap_cons, Nat.zero_mul, Nat.zero_add, List.getElem?_append_left (by rw [hf]; exact hj)]
  | x :: l, k + 1, a, hk, j, hj => by
    rw [List.flatMap_cons, List.getElem?_append_right (by rw [hf, Nat.add_mul]; omega), hf]
    have e : (k + 1) * n + j - n = k * n + j := by rw [Nat.add_mul]; omega
    rw [e]
    exact flat_get f n hf l k a (by simpa using hk) j hj
theorem flat_cell {α : Type} {f : α → List Value} {n : Nat} (hf : ∀ a, (f a).length = n) {w : World} {b : Nat} {l : List α} {e : TypeId} (h : w.heap[b]? = some (.cells (l.flatMap f).toArray e (0, 0))) {k : Nat} {a : α} (hk : l[k]? = some a) {j : Nat} {v : Value} (hj : (f a)[j]? = some v) :
    w.cell? ⟨b, 0 + k * n + j, none⟩ = some v := by
  refine cell_of_blk h ?_
  have hjn : j < n := by rw [← hf a]; exact (List.getElem?_eq_some_iff.1 hj).1
  rw [Nat.zero_add, List.getElem?_toArray, flat_get f n hf l k a hk j hjn]
  exact hj
def opCells (q : IOp × Value) : List Value := [.int .i64 q.1.code, .int .i64 q.1.res, .int .i64 q.1.a, .int .i64 q.1.b, .int .u16 (q.1.n : Int), q.2]
theorem ops_lit {w : World} {B b : Nat} {l : List (IOp × Value)} {e : TypeId} (h : w.heap[b]? = some (.cells (l.flatMap opCells).toArray e (0, 0))) (hb : b < B) (h64 : ∀ q ∈ l, Op64 q.1 ∧ IntsIn w B q.2 q.1.args) (hl : l.length ≤ 1000000) :
    OpsIn w B (.slice (some ⟨b, 0, none⟩) l.length l.length) (l.map (·.1)) := by
  refine ⟨_, l.length, by rw [List.length_map], by rw [List.length_map]; exact Nat.le_refl _, by omega, fun k o hk => ?_⟩
  rw [List.getElem?_map, Option.map_eq_some_iff] at hk
  obtain ⟨q, hq, rfl⟩ := hk
  have hc := fun j v (hj : (opCells q)[j]? = some v) => flat_cell (f := opCells) (n := 6) (fun _ => rfl) h hq hj
  obtain ⟨h1, h2⟩ := h64 q (List.mem_of_getElem? hq)
  exact ⟨b, 0, rfl, hb, hc 0 _ rfl, hc 1 _ rfl, hc 2 _ rfl, hc 3 _ rfl, hc 4 _ rfl, h1, q.2, hc 5 _ rfl, h2⟩
def edgeCells (q : IEdge × Value) : List Value := [.int .i64 q.1.block, q.2]
theorem edges_lit {w : World} {B b : Nat} {l : List (IEdge × Value)} {e : TypeId} (h : w.heap[b]? = some (.cells (l.flatMap edgeCells).toArray e (0, 0))) (hb : b < B) (h64 : ∀ q ∈ l, I64 q.1.block ∧ IntsIn w B q.2 q.1.args) (hl : l.length ≤ 1000000) :
    EdgesIn w B (.slice (some ⟨b, 0, none⟩) l.length l.length) (l.map (·.1)) := by
  refine ⟨_, l.length, by rw [List.length_map], by rw [List.length_map]; exact Nat.le_refl _, by omega, fun k o hk => ?_⟩
  rw [List.getElem?_map, Option.map_eq_some_iff] at hk
  obtain ⟨q, hq, rfl⟩ := hk
  have hc := fun j v (hj : (edgeCells q)[j]? = some v) => flat_cell (f := edgeCells) (n := 2) (fun _ => rfl) h hq hj
  obtain ⟨h1, h2⟩ := h64 q (List.mem_of_getElem? hq)
  exact ⟨b, 0, rfl, hb, hc 0 _ rfl, h1, q.2, hc 1 _ rfl, h2⟩
structure BlkLit where
  b : IBlk
  pv : Value
  ov : Value
  tv : Value
def blkCells (q : BlkLit) : List Value := [q.pv, q.ov, .int .i64 q.b.term.kind, .int .i64 q.b.term.a, q.tv]
def BlkOk (w : World) (B : Nat) (q : BlkLit) : Prop := (I64 q.b.term.kind ∧ I64 q.b.term.a) ∧ IntsIn w B q.pv q.b.params ∧ OpsIn w B q.ov q.b.ops ∧ EdgesIn w B q.tv q.b.term.to
theorem blks_lit {w : World} {B b : Nat} {l : List BlkLit} {e : TypeId} (h : w.heap[b]? = some (.cells (l.flatMap blkCells).toArray e (0, 0))) (hb : b < B) (h64 : ∀ q ∈ l, BlkOk w B q) (hl : l.length ≤ 1000000) :
    BlksIn w B (.slice (some ⟨b, 0, none⟩) l.length l.length) (l.map (·.b)) := by
  refine ⟨_, l.length, by rw [List.length_map], by rw [List.length_map]; exact Nat.le_refl _, by omega, fun k o hk => ?_⟩
  rw [List.getElem?_map, Option.map_eq_some_iff] at hk
  obtain ⟨q, hq, rfl⟩ := hk
  have hc := fun j v (hj : (blkCells q)[j]? = some v) => flat_cell (f := blkCells) (n := 5) (fun _ => rfl) h hq hj
  obtain ⟨h1, h2, h3, h4⟩ := h64 q (List.mem_of_getElem? hq)
  exact ⟨b, 0, rfl, hb, hc 2 _ rfl, hc 3 _ rfl, h1, q.pv, q.ov, q.tv, hc 0 _ rfl, hc 1 _ rfl, hc 4 _ rfl, h2, h3, h4⟩
theorem one_lit {α : Type} {R : World → Nat → Nat → Nat → α → Prop} {w : World} {B b : Nat} {vs : List Value} {xs : List α} {e : TypeId} (h : w.heap[b]? = some (.cells vs.toArray e (0, 0))) (hb : b < B) (hn : vs.length = xs.length) (hl : xs.length ≤ 1000000)
    (hR : ∀ (k : Nat) (v : Value) (x : α), vs[k]? = some v → xs[k]? = some x → w.cell? ⟨b, k, none⟩ = some v → R w B b k x) : Elems 1 R w B (.slice (some ⟨b, 0, none⟩) xs.length xs.length) xs := by
  refine ⟨_, xs.length, rfl, Nat.le_refl _, by omega, fun k x hk => ⟨b, 0, rfl, hb, ?_⟩⟩
  obtain ⟨v, hv⟩ : ∃ v, vs[k]? = some v := ⟨_, List.getElem?_eq_getElem (by rw [hn]; exact (List.getElem?_eq_some_iff.1 hk).1)⟩
  rw [Nat.zero_add, Nat.mul_one]
  exact hR k v x hv hk (cell_of_blk h (by simpa using hv))
theorem ints_lit {w : World} {B b : Nat} {xs : List Int} {e : TypeId} (h : w.heap[b]? = some (.cells (xs.map fun x => Value.int .i64 x).toArray e (0, 0))) (hb : b < B) (h64 : ∀ x ∈ xs, I64 x) (hl : xs.length ≤ 1000000) : IntsIn w B (.slice (some ⟨b, 0, none⟩) xs.length xs.length) xs :=
  one_lit h hb (by simp) hl (fun k v x hv hx hc => by
    rw [List.getElem?_map, hx] at hv
    cases hv
    exact ⟨hc, h64 x (List.mem_of_getElem? hx)⟩)
theorem u16s_lit {w : World} {B b : Nat} {xs : List Nat} {e : TypeId} (h : w.heap[b]? = some (.cells (xs.map fun (x : Nat) => Value.int .u16 (x : Int)).toArray e (0, 0))) (hb : b < B) (h64 : ∀ x ∈ xs, x < 65536) (hl : xs.length ≤ 1000000) : U16sIn w B (.slice (some ⟨b, 0, none⟩) xs.length xs.length) xs :=
  one_lit h hb (by simp) hl (fun k v x hv hx hc => by
    rw [List.getElem?_map, hx] at hv
    cases hv
    exact ⟨hc, h64 x (List.mem_of_getElem? hx)⟩)
/-- The same, with the slices' forms laid open. -/
def RetProgO (w : World) (p : IProg) (e : Ending) (w' : World) : Prop :=
  ∃ f1 f2 a1 a2 d1 d2 b1 b2, e = .returned (.agg #[.slice f1 p.funcs.length f2, .slice a1 p.args.length a2, .int .i64 p.entry, .int .i64 p.handler, .slice d1 p.data.length d2, .slice b1 p.banks.length b2]) ∧
    ProgIn w' w'.heap.size ⟨.slice f1 p.funcs.length f2, .slice a1 p.args.length a2, .slice d1 p.data.length d2, .slice b1 p.banks.length b2⟩ p ∧ Below w.heap.size w w'
theorem RetProg.open {w : World} {p : IProg} {e : Ending} {w' : World} (h : RetProg w p e w') : RetProgO w p e w' := by
  obtain ⟨⟨Vf, Va, Vd, Vb⟩, rfl, hp, hb⟩ := h
  obtain ⟨f1, f2, e1, _, _⟩ := hp.funcs.form
  obtain ⟨a1, a2, e2, _, _⟩ := hp.args.form
  obtain ⟨d1, d2, e3, _, _⟩ := hp.data.form
  obtain ⟨b1, b2, e4, _, _⟩ := hp.banks.form
  simp only at e1 e2 e3 e4
  subst e1 e2 e3 e4
  exact ⟨f1, f2, a1, a2, d1, d2, b1, b2, rfl, hp, hb⟩
/-- A run, its events' slice laid open. -/
def RetRunO (w : World) (R : IRun) (e : Ending) (w' : World) : Prop :=
  ∃ oa oc, e = .returned (.agg #[.int .u16 (R.value : Int), .slice oa R.out.length oc, .int .i64 (R.kind : Int), .int .u16 (R.info : Int), .string (ramStr R.ram), .int .i64 (R.inputs : Int), .int .i64 (R.polls : Int)]) ∧ EventsIn w' w'.heap.size (.slice oa R.out.length oc) R.out ∧ Below w.heap.size w w'
theorem RetRun.open {w : World} {R : IRun} {e : Ending} {w' : World} (h : RetRun w R e w') : RetRunO w R e w' := by
  obtain ⟨ov, rfl, ho, hb⟩ := h
  obtain ⟨oa, oc, rfl, _, _⟩ := ho.form
  exact ⟨oa, oc, rfl, ho, hb⟩
theorem small_sized {t : ITerm} {ops : List IOp} (h1 : ops.length ≤ 2000000) (h2 : t.to.length ≤ 2000000) : SizedP (smallP t ops) := by
  intro f hf
  simp only [smallP, List.mem_singleton] at hf
  subst hf
  refine ⟨⟨by simp, fun b hb => ?_⟩, fun b hb => ?_⟩
  · rw [List.mem_singleton] at hb; subst hb; exact ⟨by simp, h1, h2⟩
  · rw [List.mem_singleton] at hb; subst hb; simp
end Go.Proofs.Ytojclalkfhoooaa
