/-
  For the law FlowSwapped: rows turned round; an append of nothing.
-/
import Derived.Test.YtpfinkcnklkclaaBuild
set_option linter.unusedVariables false
set_option linter.unusedSimpArgs false
namespace Go.Proofs.Ytpfinkcnklkclaa
open Go.RowKit

theorem run_append_empty {P : Program} (w : World) (t ty e : TypeId) (i : TypeInfo) (ht : P.underlying t = some (.slice e)) (hi : P.info? e = some i) (b : Addr) (n c : Nat) (hc : n ≤ c) (A : Option Addr) (c' : Nat) :
    (Builtin.append_ #[t, t] ty #[.slice (some b) n c, .slice A 0 c']).run P w = .ok (.slice (some b) n c) w := by
  cases A with
  | none => simp [Builtin.append_, run_underlying ht, sizeOf, typeInfo, hi, Builtin.lenOf, run_firstCells_none, hc, storeCells]
  | some a =>
    have hf := run_firstCells_some (P := P) w i.size 0 a 0 c' [] (by simp) (by simp)
    simp [Builtin.append_, run_underlying ht, sizeOf, typeInfo, hi, Builtin.lenOf, hf, hc, storeCells]
theorem step_append_empty {P : Program} {ops : Array Oper} {o : Oper} {a : Act} {w : World} {K : Act → World → Prop} {Q : Exit → Act → World → Prop} {E : Prop} (hgd : o.guard = none) (s x : Operand) (t : TypeId)
    (hop : o.op = .call { callee := .builtin .append, args := #[s, x], argTypes := #[t, t] }) (e : TypeId) (i : TypeInfo) (ht : P.underlying t = some (.slice e)) (hi : P.info? e = some i)
    (b : Addr) (n c : Nat) (hc : n ≤ c) (A : Option Addr) (c' : Nat) (hs : a.eval s = .slice (some b) n c) (hx : a.eval x = .slice A 0 c') (hK : K (a.put o.dst (.slice (some b) n c)) w) :
    if Region.wanted o (yielded ops a.tmps) = true then Oper.wp P o a w K Q else E := by
  have hw : Region.wanted o (yielded ops a.tmps) = true := by simp [Region.wanted, hgd]
  rw [if_pos hw]
  have hrun := run_append_empty (P := P) w t o.type e i ht hi b n c hc A c'
  unfold Oper.wp
  simp [execOp, hop, resolve, invoke, builtin, hs, hx, hrun, Result.andThen]
  exact hK

def revRow (g : List (List Nat)) (y k : Nat) : List Nat := ((succ g y).take k).reverse
theorem revRow_zero (g : List (List Nat)) (y : Nat) : revRow g y 0 = [] := by simp [revRow]
theorem revRow_succ {g : List (List Nat)} {y k s : Nat} (hs : (succ g y)[k]? = some s) : revRow g y (k + 1) = [s] ++ revRow g y k := by
  unfold revRow
  rw [List.take_add_one, hs, List.reverse_append]; rfl
theorem revRow_len (g : List (List Nat)) (y k : Nat) (hk : k ≤ (succ g y).length) : (revRow g y k).length = k := by
  unfold revRow
  rw [List.length_reverse, List.length_take]; omega
def revG (g : List (List Nat)) : List (List Nat) := (List.range g.length).map fun y => (succ g y).reverse
theorem revG_full (g : List (List Nat)) : ((List.range g.length).map fun y => revRow g y (succ g y).length) = revG g := by
  unfold revG revRow
  exact List.map_congr_left fun y _ => by rw [List.take_length]
theorem revG_len (g : List (List Nat)) : (revG g).length = g.length := by simp [revG]
theorem revG_succ (g : List (List Nat)) (u : Nat) : succ (revG g) u = (succ g u).reverse := by
  unfold succ
  rw [List.getD_eq_getElem?_getD]
  unfold revG
  rw [List.getElem?_map]
  by_cases hu : u < g.length
  · rw [List.getElem?_range hu]; rfl
  · have : g.getD u [] = [] := by rw [List.getD_eq_getElem?_getD, List.getElem?_eq_none (by omega)]; rfl
    rw [List.getElem?_eq_none (by simpa using hu), this]; rfl
theorem revG_same {g : List (List Nat)} (hv : ValidG g) : Same g (revG g) := by
  have hm : ∀ u s, s ∈ succ g u ↔ s ∈ succ (revG g) u := fun u s => by rw [revG_succ, List.mem_reverse]
  refine ⟨hv, ⟨by rw [revG_len]; exact hv.1, fun l hl s hs => ?_⟩, revG_len g, hm⟩
  obtain ⟨u, hu⟩ := List.getElem?_of_mem hl
  have : s ∈ succ (revG g) u := by unfold succ; rw [List.getD_eq_getElem?_getD, hu]; exact hs
  rw [revG_len]
  exact succ_lt hv ((hm u s).2 this)
theorem setCell_alloc_comm {w : World} {o : Obj} {a : Addr} {v : Value} (h : a.block < w.heap.size) : (w.alloc o).setCell a v = (w.setCell a v).alloc o := by
  show ({ w with heap := (w.heap.push o).modify a.block _ } : World) = { w with heap := (w.heap.modify a.block _).push o }
  congr 1
  apply Array.ext_getElem?
  intro i
  by_cases hi : i < w.heap.size
  · by_cases e : a.block = i
    · subst e
      rw [Array.getElem?_push_lt (by simpa using hi), Array.getElem?_eq_getElem (by simp; omega), Array.getElem_modify_self, Array.getElem_modify_self, Array.getElem_push_lt hi]
    · rw [Array.getElem?_push_lt (by simpa using hi), Array.getElem?_eq_getElem (by simp; omega), Array.getElem_modify_of_ne e, Array.getElem_modify_of_ne e, Array.getElem_push_lt hi]
  · by_cases e : i = w.heap.size
    · subst e
      rw [Array.getElem?_eq_getElem (by simp), Array.getElem_modify_of_ne (by omega), Array.getElem?_eq_getElem (by simp)]
      simp [Array.getElem_push]
    · rw [Array.getElem?_eq_none (by simp; omega), Array.getElem?_eq_none (by simp; omega)]
theorem grownBy_some {w w2 : World} {r : Option Nat} (hg : w.grownBy w2 none) (hs : w.heap.size < w2.heap.size) : ∃ o, (w.alloc o).grownBy w2 r := by
  refine ⟨w2.heap[w.heap.size], ⟨hg.os, hg.tape, hg.output, by simp; omega, fun b hb _ => ?_⟩⟩
  by_cases e : b = w.heap.size
  · subst e
    rw [new_at rfl, Array.getElem?_eq_getElem hs]
  · have hlt : b < w.heap.size := by simp at hb; omega
    rw [hg.block b hlt (by simp)]
    exact (Below.heap_alloc w _ b hlt).symm
theorem GMem.put2 {V w w2 : World} {bp bh n m s g cap' cap : Nat} {R : List (List Nat)} {row row' : List Nat} {a : Option Addr} (h : GMem V w bp bh n m R) (hs : R[s]? = some row)
    (hc : w.cell? ⟨bp, s, none⟩ = some (.slice a row.length cap)) (hg : w.grownBy w2 none) (hlt : w.heap.size < w2.heap.size)
    (hown : w2.ownsRow V.heap.size 3 1 (.slice (some ⟨g, 0, none⟩) row'.length cap') row'.length (row'.map encNat)) (hgl : w.heap.size ≤ g) (hm : row'.length ≤ m) :
    GMem V (w2.setCell ⟨bp, s, none⟩ (.slice (some ⟨g, 0, none⟩) row'.length cap')) bp bh n m (R.set s row') := by
  obtain ⟨o, ho⟩ := grownBy_some (r := (Value.slice a row.length cap).ownBlock) hg hlt
  exact h.put hs hc ho hown (.inr rfl) hgl hm
theorem grownBy_none {w w2 : World} {o : Obj} {k : Nat} (h : ((w.alloc o).drewN k).grownBy w2 (some w.heap.size)) : w.grownBy w2 none :=
  ⟨h.os, h.tape, h.output, by have := h.size; simp at this; omega, fun b hb _ => by rw [h.block b (by simp; omega) (by simp; omega)]; exact Below.heap_alloc w o b hb⟩
theorem own_one {w : World} {base : Nat} {x : Nat} (hb : base ≤ w.heap.size) : (w.alloc (.cells #[.int .i64 (x : Int)] 3)).ownsRow base 3 1 (.slice (some ⟨w.heap.size, 0, none⟩) 1 1) 1 [.int .i64 (x : Int)] :=
  ⟨by simp, .inr ⟨w.heap.size, 1, _, by simp, hb, new_at (by simp), by simp, by decide, by simp, by simp⟩⟩
theorem news_of_own {w : World} {base g n cap : Nat} {e : TypeId} {xs : List Value} (h : w.ownsRow base e 1 (.slice (some ⟨g, 0, none⟩) n cap) n xs) : ∀ j u, xs[j]? = some u → w.cell? ((⟨g, 0, none⟩ : Addr).add j) = some u := fun j u hu => by
  have hadd : (⟨g, 0, none⟩ : Addr).add j = ⟨g, j, none⟩ := by unfold Addr.add; split <;> simp_all
  rw [hadd]
  have hj : j < n := by have := h.1; have := (List.getElem?_eq_some_iff.1 hu).1; omega
  exact (h.cellAt j (by omega)).trans hu
end Go.Proofs.Ytpfinkcnklkclaa
