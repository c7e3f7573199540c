/-
  The iterator over a node's predecessors: 'before' and its closure, for every loop body that leaves what they read as it was.
-/
import Derived.Test.YtojclalkfhoooaaView
import Derived.RangeFuncNested
import Derived.RangeFuncBound
import Derived.RangeFuncCalls
import Derived.RangeFuncLeaves
import Derived.Shelf.Abstract
import Derived.Shelf.RegionOpen
import Derived.OwnWalkIn
import Derived.TacticsInMore
import Derived.LoopNIn
import Derived.LoopIn
import Derived.RegionIn
set_option linter.unusedVariables false
set_option linter.unusedSimpArgs false
set_option maxRecDepth 8000
namespace Go.Proofs.Ytojclalkfhoooaa
open Go.RowKit Go.Shelf
attribute [local go_sem] Oper.semAt_some

/-- What the iterator reads: the box of the view's pointer (block Bv), of the node (block Bn), and the node's predecessors xs. -/
def ItRead (Bv Bn n : Nat) (xs : List Nat) (bv bp op len cap : Nat) (ar : Option Addr) (capr : Nat) (W : World) : Prop :=
  W.cell? ⟨Bv, 0, none⟩ = some (.pointer (some ⟨bv, 0, none⟩)) ∧ W.cell? ⟨Bn, 0, none⟩ = some (.int .i64 (n : Int)) ∧ W.cell? ⟨bv, 2, none⟩ = some (.slice (some ⟨bp, op, none⟩) len cap) ∧ n < len ∧
    W.cell? ⟨bp, op + n, none⟩ = some (.slice ar xs.length capr) ∧ ∀ (j : Nat) (x : Nat), xs[j]? = some x → ∃ b o, ar = some ⟨b, o, none⟩ ∧ W.cell? ⟨b, o + j, none⟩ = some (.int .i64 (x : Int))

set_option maxRecDepth 100000 in
set_option maxHeartbeats 2000000 in
theorem before1_in (m : Nat) (hm : 1 ≤ m) (l Bv Bn n : Nat) (xs : List Nat) (bv bp op len cap : Nat) (ar : Option Addr) (capr : Nat) (hx : xs.length ≤ 4000004000000) (J Jx : List Nat → World → Prop)
    (hY : ∀ (pre : List Nat) (x : Nat) (W : World), J pre W → xs[pre.length]? = some x → YieldAt Fence.wide (m - 1) Try.prog l #[.int .i64 (x : Int)] W fun e W' =>
      (e = .returned (.bool true) ∧ J (pre ++ [x]) W' ∧ (ItRead Bv Bn n xs bv bp op len cap ar capr W → ItRead Bv Bn n xs bv bp op len cap ar capr W')) ∨ (e = .returned (.bool false) ∧ Jx (pre ++ [x]) W'))
    (hJd : ∀ pre W k, J pre W → J pre (W.drewN k)) (W : World) (hR : ItRead Bv Bn n xs bv bp op len cap ar capr W) (h0 : J [] W) :
    CallsIn Fence.wide m Try.prog 129 #[.func (.yield l) #[] #[], .pointer (some ⟨Bv, 0, none⟩), .pointer (some ⟨Bn, 0, none⟩)] W fun e W' => (∃ v, e = .returned v) ∧
      ((∃ ys, ys = xs ∧ J ys W') ∨ (∃ pre, pre <+: xs ∧ Jx pre W')) := by
  have HR0 := Lib.hid hR
  obtain ⟨c1, c2, c3, hn, c4, hc⟩ := hR
  have hn1 : (n : Int) < len := by omega
  refine callsIn_of_wp Try.func129 rfl trivial ?_ rfl
  simp only [Try.ntmps129, List.size_toArray, List.length_cons, List.length_nil, Nat.reduceAdd, Nat.reduceSub, Array.replicate_succ, Array.replicate_zero, List.push_toArray, List.append_toArray, List.nil_append, List.cons_append]
  gi_wp2
  gi_region
  gi_wp2
  gi_loopw [14] (fun i wr => ∃ k : Nat, k ≤ xs.length ∧ i = .int .i64 k ∧ J (xs.take k) wr ∧ Hid (ItRead Bv Bn n xs bv bp op len cap ar capr wr)) (fun i _ => xs.length - (intOf i).toNat)
  case atStart => exact ⟨0, Nat.zero_le _, rfl, hJd _ _ 1 h0, HR0⟩
  case round =>
    obtain ⟨k, hk, rfl, hJs, HR⟩ := hrel
    by_cases hlt : k < xs.length
    · obtain ⟨x, hxk⟩ : ∃ x, xs[k]? = some x := ⟨_, List.getElem?_eq_getElem hlt⟩
      obtain ⟨b, o, har, hcx⟩ := HR.out.2.2.2.2.2 k x hxk
      obtain ⟨fn, tmps, assign, body, hy, hR⟩ := hY _ x wr hJs (by rw [List.length_take, Nat.min_eq_left hk]; exact hxk)
      have hsn : xs.take (k + 1) = xs.take k ++ [x] := by rw [List.take_add_one, hxk]; rfl
      have HSN := Lib.hid hsn
      have HXK := Lib.hid hxk
      have hlt1 : (k : Int) < xs.length := by omega
      subst har
      clear hxk hsn c1 c2 c3 c4 hc hY
      gi_wp2
      refine hR.mono ?_
      rintro e W3 (⟨rfl, hJ3, hk3⟩ | ⟨rfl, hJx3⟩)
      · gi_wp2
        go_roundw
        case rel => exact ⟨k + 1, by omega, by go_num, by rw [HSN.out]; exact hJ3, hk3 HR⟩
        case measure => simp [intOf]; omega
      · gi_wp2
        refine bodyPost_ret (results_none rfl _ _ _) rfl ?_
        exact ⟨⟨_, rfl⟩, .inr ⟨_, by rw [← HSN.out]; exact List.take_prefix _ _, hJx3⟩⟩
    · obtain rfl : k = xs.length := by omega
      gi_wp2
      go_end0
      exact ⟨⟨_, rfl⟩, .inl ⟨_, List.take_length, hJs⟩⟩
theorem before_any (p : Option Addr) (n : Int) (w : World) :
    Calls Try.prog 122 #[.pointer p, .int .i64 n] w fun e w' => e = .returned (.func (.func 129) #[] #[.pointer (some ⟨w.heap.size, 0, none⟩), .pointer (some ⟨w.heap.size + 1, 0, none⟩)]) ∧
      w' = (w.alloc (.cells #[.pointer p] 160)).alloc (.cells #[.int .i64 n] 3) := by
  go_enter Try.func122, Try.ntmps122
  go_wp2
  go_ret
  exact ⟨rfl, rfl⟩

theorem ItRead.below {Bv Bn n bv bp op len cap capr C : Nat} {xs : List Nat} {ar : Option Addr} {W W' : World} (h : ItRead Bv Bn n xs bv bp op len cap ar capr W) (hb : Below C W W') (hC : W.heap.size ≤ C) : ItRead Bv Bn n xs bv bp op len cap ar capr W' := by
  obtain ⟨c1, c2, c3, hn, c4, hc⟩ := h
  have up : ∀ {a : Addr} {v : Value}, W.cell? a = some v → W'.cell? a = some v := fun {a v} h => (hb.cell (Nat.lt_of_lt_of_le (World.block_lt_of_cell? W a h) hC)).trans h
  refine ⟨up c1, up c2, up c3, hn, up c4, fun j x hj => ?_⟩
  obtain ⟨b, o, e, c⟩ := hc j x hj
  exact ⟨b, o, e, up c⟩

theorem attach_take {xs : List Nat} {k x : Nat} (h : xs[k]? = some x) : xs.attach.take (k + 1) = xs.attach.take k ++ [⟨x, List.mem_of_getElem? h⟩] := by
  rw [List.take_add_one]
  congr 1
  obtain ⟨hlt, rfl⟩ := List.getElem?_eq_some_iff.1 h
  rw [List.getElem?_eq_getElem (by simpa using hlt)]
  simp

theorem before_stops (m : Nat) (hm : 1 ≤ m) (Bv Bn n : Nat) (xs : List Nat) (bv bp op len cap : Nat) (ar : Option Addr) (capr : Nat) (hx : xs.length ≤ 4000004000000) (w : World) (hR : ItRead Bv Bn n xs bv bp op len cap ar capr w) :
    SeqStopsK Fence.wide m Try.prog 129 #[.pointer (some ⟨Bv, 0, none⟩), .pointer (some ⟨Bn, 0, none⟩)] (fun x : {p // p ∈ xs} => #[Value.int .i64 (x.1 : Int)]) (fun W W' => ItRead Bv Bn n xs bv bp op len cap ar capr W → ItRead Bv Bn n xs bv bp op len cap ar capr W')
      (fun ys => ys.map (·.1) = xs) (fun _ => True) xs.length w := fun l J Jx W hW hJ _ hY h0 => by
  refine (before1_in m hm l Bv Bn n xs bv bp op len cap ar capr hx (fun pre W => J (xs.attach.take pre.length) W) (fun pre W => Jx (xs.attach.take pre.length) W) (fun pre x W1 h1 h2 => ?_)
    (fun pre W1 k h => hJ _ W1 (W1.drewN k) none h ⟨rfl, rfl, rfl, Nat.le_refl _, fun _ _ _ => rfl⟩ (fun _ e => by cases e)) W (hR.below hW (Nat.le_refl _)) (by simpa using h0)).mono ?_
  · have hlt : pre.length < xs.length := (List.getElem?_eq_some_iff.1 h2).1
    refine (hY _ ⟨x, List.mem_of_getElem? h2⟩ W1 h1 (by rw [List.length_take, List.length_attach]; omega)).mono ?_
    rw [List.length_append, List.length_singleton, attach_take h2]
    exact fun e w' h => h
  · rintro e w' ⟨hv, (⟨ys, rfl, h⟩ | ⟨pre, _, h⟩)⟩
    · exact ⟨hv, .inl ⟨_, by simp, h⟩⟩
    · exact ⟨hv, .inr ⟨_, trivial, h⟩⟩
end Go.Proofs.Ytojclalkfhoooaa
