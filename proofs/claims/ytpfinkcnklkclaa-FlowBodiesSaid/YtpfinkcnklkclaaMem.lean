/-
  Memory words for the walks: what a slice value reads as, below a bound on block numbers. Plain facts on worlds; no function of the program is named here.
-/
import Derived.Test.YtpfinkcnklkclaaRows
import Derived.WalkKit
import Derived.WalkSpells
import Derived.Deep.QuietTactic
import Derived.BigQuiet
import Derived.Outline
import Derived.Deep.AppendLies
import Derived.Maps.AppendAt
import Derived.Deep.DeepMust
import Derived.Deep.LoopGhost
import Derived.Deep.DeepCutAuto
import Derived.Deep.RegionHeld3
import Derived.Deep.RegionLaw
import Derived.Deep.CutBlock
import Derived.Lib.Hide
set_option linter.unusedVariables false
set_option linter.unusedSimpArgs false
namespace Go.Proofs.Ytpfinkcnklkclaa
open Go.RowKit

/-- The value v is a slice whose elements, one cell each, read as xs; its cells lie in blocks below B. -/
def SliceOf {α : Type} (enc : α → Value) (w : World) (B : Nat) (v : Value) (xs : List α) : Prop :=
  ∃ (a : Option Addr) (cap : Nat), v = .slice a xs.length cap ∧ xs.length ≤ cap ∧ ∀ (k : Nat) (x : α), xs[k]? = some x → ∃ b o, a = some ⟨b, o, none⟩ ∧ b < B ∧ w.cell? ⟨b, o + k, none⟩ = some (enc x)

def encInt (n : Int) : Value := .int .i64 n
def encNat (n : Nat) : Value := .int .i64 (n : Int)
def encBool (b : Bool) : Value := .bool b
def encByte (b : UInt8) : Value := .int .u8 (b.toNat : Int)

theorem SliceOf.below {α : Type} {enc : α → Value} {w w' : World} {B : Nat} {v : Value} {xs : List α} (h : SliceOf enc w B v xs) (hb : Below B w w') : SliceOf enc w' B v xs := by
  obtain ⟨a, cap, rfl, hcap, h⟩ := h
  refine ⟨a, cap, rfl, hcap, fun k x hk => ?_⟩
  obtain ⟨b, o, ha, hB, hc⟩ := h k x hk
  exact ⟨b, o, ha, hB, (hb.cell (p := ⟨b, o + k, none⟩) hB).trans hc⟩

theorem SliceOf.mono {α : Type} {enc : α → Value} {w : World} {B B' : Nat} {v : Value} {xs : List α} (h : SliceOf enc w B v xs) (hb : B ≤ B') : SliceOf enc w B' v xs := by
  obtain ⟨a, cap, rfl, hcap, h⟩ := h
  refine ⟨a, cap, rfl, hcap, fun k x hk => ?_⟩
  obtain ⟨b, o, ha, hB, hc⟩ := h k x hk
  exact ⟨b, o, ha, by omega, hc⟩

theorem SliceOf.drewN {α : Type} {enc : α → Value} {w : World} {B n : Nat} {v : Value} {xs : List α} (h : SliceOf enc w B v xs) : SliceOf enc (w.drewN n) B v xs := h

theorem SliceOf.map {α β : Type} {enc : α → Value} {enc' : β → Value} (f : β → α) (hf : ∀ x, enc (f x) = enc' x) {w : World} {B : Nat} {v : Value} {xs : List β} :
    SliceOf enc w B v (xs.map f) ↔ SliceOf enc' w B v xs := by
  constructor
  · rintro ⟨a, cap, rfl, hcap, h⟩
    refine ⟨a, cap, by simp, by simpa using hcap, fun k x hk => ?_⟩
    have := h k (f x) (by simp [hk])
    rwa [hf] at this
  · rintro ⟨a, cap, rfl, hcap, h⟩
    refine ⟨a, cap, by simp, by simpa using hcap, fun k x hk => ?_⟩
    simp only [List.getElem?_map, Option.map_eq_some_iff] at hk
    obtain ⟨y, hy, rfl⟩ := hk
    rw [hf]
    exact h k y hy

/-- A slice of slices. -/
def RowsOf {α : Type} (enc : α → Value) (w : World) (B : Nat) (v : Value) (g : List (List α)) : Prop :=
  ∃ vs : List Value, SliceOf id w B v vs ∧ vs.length = g.length ∧ ∀ (k : Nat) (rv : Value) (row : List α), vs[k]? = some rv → g[k]? = some row → SliceOf enc w B rv row

theorem RowsOf.below {α : Type} {enc : α → Value} {w w' : World} {B : Nat} {v : Value} {g : List (List α)} (h : RowsOf enc w B v g) (hb : Below B w w') : RowsOf enc w' B v g := by
  obtain ⟨vs, h1, h2, h3⟩ := h
  exact ⟨vs, h1.below hb, h2, fun k rv row a b => (h3 k rv row a b).below hb⟩
theorem RowsOf.mono {α : Type} {enc : α → Value} {w : World} {B B' : Nat} {v : Value} {g : List (List α)} (h : RowsOf enc w B v g) (hb : B ≤ B') : RowsOf enc w B' v g := by
  obtain ⟨vs, h1, h2, h3⟩ := h
  exact ⟨vs, h1.mono hb, h2, fun k rv row a b => (h3 k rv row a b).mono hb⟩
theorem RowsOf.form {α : Type} {enc : α → Value} {w : World} {B : Nat} {v : Value} {g : List (List α)} (h : RowsOf enc w B v g) : ∃ a cap, v = .slice a g.length cap ∧ g.length ≤ cap := by
  obtain ⟨vs, ⟨a, cap, rfl, hc, _⟩, h2, _⟩ := h
  exact ⟨a, cap, by rw [h2], by omega⟩
theorem RowsOf.row {α : Type} {enc : α → Value} {w : World} {B : Nat} {a : Option Addr} {len cap : Nat} {g : List (List α)} (h : RowsOf enc w B (.slice a len cap) g) {k : Nat} {row : List α} (hk : g[k]? = some row) :
    ∃ b o a2 cap2, a = some ⟨b, o, none⟩ ∧ b < B ∧ w.cell? ⟨b, o + k, none⟩ = some (.slice a2 row.length cap2) ∧ row.length ≤ cap2 ∧ ∀ j x, row[j]? = some x → ∃ b2 o2, a2 = some ⟨b2, o2, none⟩ ∧ b2 < B ∧ w.cell? ⟨b2, o2 + j, none⟩ = some (enc x) := by
  obtain ⟨vs, ⟨a', cap', hv, _, hx⟩, h2, h3⟩ := h
  cases hv
  have hlt : k < vs.length := by rw [h2]; exact (List.getElem?_eq_some_iff.1 hk).1
  obtain ⟨b, o, ha, hB, hc⟩ := hx k _ (List.getElem?_eq_getElem hlt)
  obtain ⟨a2, cap2, hv2, hcap2, hx2⟩ := h3 k _ row (List.getElem?_eq_getElem hlt) hk
  refine ⟨b, o, a2, cap2, ha, hB, ?_, hcap2, hx2⟩
  rw [hc, ← hv2]; rfl
theorem RowsOf.rowOf {α : Type} {enc : α → Value} {w : World} {B : Nat} {a : Option Addr} {len cap : Nat} {g : List (List α)} (h : RowsOf enc w B (.slice a len cap) g) {k : Nat} {row : List α} (hk : g[k]? = some row) :
    ∃ b o rv, a = some ⟨b, o, none⟩ ∧ b < B ∧ w.cell? ⟨b, o + k, none⟩ = some rv ∧ SliceOf enc w B rv row := by
  obtain ⟨vs, ⟨a', cap', hv, _, hx⟩, h2, h3⟩ := h
  cases hv
  have hlt : k < vs.length := by rw [h2]; exact (List.getElem?_eq_some_iff.1 hk).1
  obtain ⟨b, o, ha, hB, hc⟩ := hx k _ (List.getElem?_eq_getElem hlt)
  exact ⟨b, o, vs[k], ha, hB, hc, h3 k _ row (List.getElem?_eq_getElem hlt) hk⟩
theorem RowsOf.map {α β : Type} {enc : α → Value} {enc' : β → Value} (f : β → α) (hf : ∀ x, enc (f x) = enc' x) {w : World} {B : Nat} {v : Value} {g : List (List β)} :
    RowsOf enc w B v (g.map (List.map f)) ↔ RowsOf enc' w B v g := by
  constructor
  · rintro ⟨vs, h1, h2, h3⟩
    exact ⟨vs, h1, by simpa using h2, fun k rv row a b => (SliceOf.map f hf).1 (h3 k rv _ a (by simp [b]))⟩
  · rintro ⟨vs, h1, h2, h3⟩
    refine ⟨vs, h1, by simpa using h2, fun k rv row a b => ?_⟩
    simp only [List.getElem?_map, Option.map_eq_some_iff] at b
    obtain ⟨y, hy, rfl⟩ := b
    exact (SliceOf.map f hf).2 (h3 k rv y a hy)

theorem new_at {W : World} {o : Obj} {B : Nat} (h : W.heap.size = B) : (W.alloc o).heap[B]? = some o := by subst h; exact heap_alloc_new W o
theorem alloc_blk {W : World} {o o' : Obj} {b : Nat} (h : W.heap[b]? = some o') : (W.alloc o).heap[b]? = some o' := (Below.heap_alloc W o b (lt_of_block h)).trans h
theorem grown_blk {W w1 : World} {row : Option Nat} {b : Nat} {o : Obj} (hg : W.grownBy w1 row) (hk : W.heap[b]? = some o) (hne : row ≠ some b) : w1.heap[b]? = some o := (hg.block b (lt_of_block hk) (Ne.symm hne)).trans hk
theorem set_blk {W : World} {b : Nat} {a : Addr} {u : Value} {o : Obj} (h : W.heap[b]? = some o) (hne : b ≠ a.block) : (W.setCell a u).heap[b]? = some o := (Below.heap_setCell _ _ _ _ hne).trans h
theorem below_blk {B : Nat} {W W' : World} {b : Nat} {o : Obj} (hb : Below B W W') (h : W.heap[b]? = some o) (hlt : b < B) : W'.heap[b]? = some o := (hb.block b hlt).trans h
theorem ownsRow_block_ne {w : World} {base b : Nat} {e t : TypeId} {size n : Nat} {v : Value} {xs : List Value} {cs : Array Value} (h : w.ownsRow base e size v n xs) (hb : w.heap[b]? = some (.cells cs t (0, 0))) (hne : b < base ∨ e ≠ t) : v.ownBlock ≠ some b := by
  rcases h.2 with ⟨rfl, _⟩ | ⟨g, cap, cur, rfl, hg, hh, _⟩
  · simp [Value.ownBlock]
  · simp only [Value.ownBlock, ne_eq, Option.some.injEq]
    rintro rfl
    rw [hh] at hb
    rcases hne with hne | hne
    · omega
    · exact hne (by simpa using congrArg (fun o => match o with | some (Obj.cells _ t _) => t | _ => 0) hb)
/-- Two owned rows of different element types lie in different blocks. -/
theorem ownsRow_apart {w : World} {base base' : Nat} {e e' : TypeId} {size size' n n' : Nat} {v v' : Value} {xs xs' : List Value} (h : w.ownsRow base e size v n xs) (h' : w.ownsRow base' e' size' v' n' xs') (hne : e ≠ e') : v.ownBlock = none ∨ v.ownBlock ≠ v'.ownBlock := by
  rcases h.2 with ⟨rfl, _⟩ | ⟨g, cap, cur, rfl, hg, hh, _⟩
  · exact .inl rfl
  · right
    intro e1
    exact ownsRow_block_ne h' hh (.inr (Ne.symm hne)) e1.symm
theorem heap_setCell_self {w : World} {b i : Nat} {cs : Array Value} {t : TypeId} (h : w.heap[b]? = some (.cells cs t (0, 0))) (u : Value) : (w.setCell ⟨b, i, none⟩ u).heap[b]? = some (.cells (cs.setIfInBounds i u) t (0, 0)) := by
  have hlt := lt_of_block h
  have h' : w.heap[b] = .cells cs t (0, 0) := by simpa [Array.getElem?_eq_getElem hlt] using h
  show (w.heap.modify b _)[b]? = _
  rw [Array.getElem?_eq_getElem (by simpa using hlt), Array.getElem_modify_self, h']
  rfl
theorem cell_of_blk {w : World} {b i : Nat} {cs : Array Value} {t : TypeId} {v : Value} (h : w.heap[b]? = some (.cells cs t (0, 0))) (hi : cs[i]? = some v) : w.cell? ⟨b, i, none⟩ = some v := by simp [World.cell?, h, hi]
theorem free_of_blk {w : World} {b i : Nat} {cs : Array Value} {t : TypeId} (h : w.heap[b]? = some (.cells cs t (0, 0))) : w.frozen? ⟨b, i, none⟩ = false := by simp [World.frozen?, h]

theorem ownsRow_mono {w : World} {base base' : Nat} {e : TypeId} {size n : Nat} {v : Value} {xs : List Value} (h : w.ownsRow base e size v n xs) (hb : base' ≤ base) : w.ownsRow base' e size v n xs := by
  refine ⟨h.1, ?_⟩
  rcases h.2 with h2 | ⟨g, cap, cur, rfl, hg, r⟩
  · exact .inl h2
  · exact .inr ⟨g, cap, cur, rfl, by omega, r⟩
/-- What an owned value looks like. -/
theorem ownsRow_form {w : World} {base : Nat} {e : TypeId} {size n : Nat} {v : Value} {xs : List Value} (h : w.ownsRow base e size v n xs) : ∃ a cap, v = .slice a n cap := by
  rcases h.2 with ⟨rfl, rfl⟩ | ⟨g, cap, cur, rfl, _⟩
  · exact ⟨none, 0, rfl⟩
  · exact ⟨_, cap, rfl⟩
theorem ownsRow_le {w : World} {base : Nat} {e : TypeId} {size n m cap : Nat} {a : Option Addr} {xs : List Value} (h : w.ownsRow base e size (.slice a m cap) n xs) : m ≤ cap ∧ cap ≤ 9223372036854775807 := by
  rcases h.2 with ⟨hv, _⟩ | ⟨g, c, cur, hv, _, _, h1, h2, _⟩
  · cases hv; omega
  · cases hv; unfold maxLen at h2; omega
theorem own_drewN {w : World} {base : Nat} {e : TypeId} {size n k : Nat} {v : Value} {xs : List Value} (h : w.ownsRow base e size v n xs) : (w.drewN k).ownsRow base e size v n xs := h
theorem blk_drewN {w : World} {b k : Nat} {o : Option Obj} (h : w.heap[b]? = o) : (w.drewN k).heap[b]? = o := h
theorem below_drewN {B k : Nat} {w w' : World} (h : Below B w w') : Below B w (w'.drewN k) := ⟨h.os, h.tape, h.output, h.size, h.block⟩
theorem grownBy_of_drewN {w w' : World} {k : Nat} {row : Option Nat} (h : (w.drewN k).grownBy w' row) : w.grownBy w' row := ⟨h.os, h.tape, h.output, h.size, h.block⟩
theorem one_cell_inj {w : World} {b : Nat} {v v' : Value} {t t' : TypeId} (h : w.heap[b]? = some (.cells #[v] t (0, 0))) (h' : w.heap[b]? = some (.cells #[v'] t' (0, 0))) : v = v' := by
  rw [h] at h'; simp only [Option.some.injEq, Obj.cells.injEq] at h'; simpa using h'.1
theorem grownBy_drew {W W' : World} {row : Option Nat} (h : W.grownBy W' row) : W.grownBy W'.drew row := ⟨h.os, h.tape, h.output, h.size, h.block⟩
theorem grownBy_refl (W : World) (row : Option Nat) : W.grownBy W row := ⟨rfl, rfl, rfl, Nat.le_refl _, fun _ _ _ => rfl⟩
/-- Ways of reading the world behind draws. -/
theorem below_drewN0 (B : Nat) (w : World) (n : Nat) : Below B w (w.drewN n) := ⟨rfl, rfl, rfl, Nat.le_refl _, fun _ _ => rfl⟩
theorem cellLt {w : World} {b o : Nat} {v : Value} (h : w.cell? ⟨b, o, none⟩ = some v) : b < w.heap.size := World.block_lt_of_cell? w _ h

theorem bcell {W w1 : World} (hb : Below W.heap.size W w1) : (∀ b o, b < W.heap.size → w1.cell? ⟨b, o, none⟩ = W.cell? ⟨b, o, none⟩) ∧ (∀ b o, b < W.heap.size → w1.frozen? ⟨b, o, none⟩ = W.frozen? ⟨b, o, none⟩) :=
  ⟨fun b o h => hb.cell (p := ⟨b, o, none⟩) h, fun b o h => hb.frozen (p := ⟨b, o, none⟩) h⟩

theorem ret_int {k : IntKind} {a b : Int} (h : a = b) : Ending.returned (.int k a) = .returned (.int k b) := by rw [h]
theorem ret_bool {a b : Bool} (h : a = b) : Ending.returned (.bool a) = .returned (.bool b) := by rw [h]
end Go.Proofs.Ytpfinkcnklkclaa
