/-
  XMul The walk of slices.Repeat at []int, x of one element, count ≥ 1.
-/
import Derived.Shelf.Bits.Mul64
import Derived.Test.YtojclalkfhoooaaProg
import Derived.Test.YtojclalkfhoooaaOrd2
import Derived.Laws.CopyOwn
set_option linter.unusedVariables false
set_option linter.unusedSimpArgs false
namespace Go.Proofs
open Go.Shelf
def Try.lays264_ren : Go.Shelf.Ren := ⟨fun | 264 => 132 | n => n, fun | 53 => 184 | 46 => 82 | n => n, fun | n => n⟩
theorem Try.lays264 : Go.Proofs.Lays.n264 Try.prog Try.lays264_ren := {
  mixed := by kernel_rfl
  f264 := Try.func132.trans (congrArg some (by kernel_rfl))
  t46 := Try.underlying82
  a46 := Try.isAgg82
  z46 := Try.sizeOf82
  v46 := Try.zeroValue82
  t53 := Try.underlying184
  a53 := Try.isAgg184
  z53 := Try.sizeOf184
  v53 := Try.zeroValue184 }
open Go.RowKit Go.Lib in
theorem Try.bits_Mul64 (x y : Nat) (hx : x < 18446744073709551616) (hy : y < 18446744073709551616) (w : World) :
    Calls Try.prog 132 #[.int .u64 x, .int .u64 y] w fun e w' => e = .returned (.tuple #[.int .u64 ((x * y / 18446744073709551616 : Nat) : Int), .int .u64 ((x * y % 18446744073709551616 : Nat) : Int)]) ∧ w' = w := Any.bits_Mul64 Try.lays264 x y hx hy w
def Try.lays212_ren : Go.Shelf.Ren := ⟨fun | 212 => 128 | 263 => 131 | 264 => 132 | n => n, fun | 46 => 82 | 51 => 38 | 146 => 201 | 53 => 184 | 148 => 203 | n => n, fun | n => n⟩
theorem Try.lays212 : Go.Proofs.Lays.n212 Try.prog Try.lays212_ren := {
  mixed := by kernel_rfl
  f212 := Try.func128.trans (congrArg some (by kernel_rfl))
  f263 := Try.func131.trans (congrArg some (by kernel_rfl))
  f264 := Try.func132.trans (congrArg some (by kernel_rfl))
  t46 := Try.underlying82
  a46 := Try.isAgg82
  z46 := Try.sizeOf82
  v46 := Try.zeroValue82
  t51 := Try.underlying38
  a51 := Try.isAgg38
  z51 := Try.sizeOf38
  v51 := Try.zeroValue38
  t53 := Try.underlying184
  a53 := Try.isAgg184
  z53 := Try.sizeOf184
  v53 := Try.zeroValue184
  t146 := Try.underlying201
  a146 := Try.isAgg201
  z146 := Try.sizeOf201
  v146 := Try.zeroValue201
  t148 := Try.underlying203
  a148 := Try.isAgg203
  z148 := Try.sizeOf203
  v148 := Try.zeroValue203 }
open Go.RowKit Go.Lib in
/-- math/bits.Mul: "Mul returns the full-width product of x and y": on a machine of 64 bits: Mul64's. (LAID: no walk: one application.) -/
theorem Try.bits_Mul (x y : Nat) (hx : x < 18446744073709551616) (hy : y < 18446744073709551616) (w : World) :
    Calls Try.prog 128 #[.int .u64 x, .int .u64 y] w fun e w' => e = .returned (.tuple #[.int .u64 ((x * y / 18446744073709551616 : Nat) : Int), .int .u64 ((x * y % 18446744073709551616 : Nat) : Int)]) ∧ w' = w := Any.bits_Mul Try.lays212 x y hx hy w
end Go.Proofs
set_option linter.unusedVariables false
set_option linter.unusedSimpArgs false
namespace Go.Proofs.Ytojclalkfhoooaa
open Go.RowKit

/-- The new row, m cells of it filled. -/
def fillTo (N m : Nat) (z : Value) : List Value := List.replicate m z ++ List.replicate (N - m) (.int .i64 0)
theorem fillTo_zero (N : Nat) (z : Value) : fillTo N 0 z = List.replicate N (.int .i64 0) := by simp [fillTo]
theorem fillTo_full (N : Nat) (z : Value) : fillTo N N z = List.replicate N z := by simp [fillTo]
theorem fillTo_length {N m : Nat} (z : Value) (h : m ≤ N) : (fillTo N m z).length = N := by simp [fillTo]; omega
theorem fillTo_get {N m j : Nat} (z : Value) (h : j < m) : (fillTo N m z)[j]? = some z := by
  unfold fillTo; rw [List.getElem?_append_left (by simpa using h)]; simp [h]
theorem fillTo_splice {N m k : Nat} (z : Value) (h : m + k ≤ N) : splice (fillTo N m z) m (List.replicate k z) = fillTo N (m + k) z := by
  unfold splice fillTo
  have e1 : List.take m (List.replicate m z ++ List.replicate (N - m) (.int .i64 0)) = List.replicate m z := by
    rw [List.take_append_of_le_length (by simp), List.take_of_length_le (by simp)]
  have e2 : List.drop (m + (List.replicate k z).length) (List.replicate m z ++ List.replicate (N - m) (.int .i64 0)) = List.replicate (N - (m + k)) (.int .i64 0) := by
    rw [List.drop_append, List.drop_eq_nil_of_le (by simp), List.nil_append, List.drop_replicate]
    congr 1; simp; omega
  rw [e1, e2, ← List.append_assoc, List.replicate_append_replicate]
theorem fillTo_splice0 {N k : Nat} (z : Value) (h : k ≤ N) : splice (List.replicate N (.int .i64 0)) 0 (List.replicate k z) = fillTo N k z := by
  have := fillTo_splice (m := 0) z (by omega : 0 + k ≤ N)
  rw [fillTo_zero] at this
  simpa using this

set_option maxHeartbeats 4000000 in
set_option maxRecDepth 8000 in
theorem repeat_any (w : World) (s o cap N : Nat) (hc : w.cell? ⟨s, o, none⟩ = some (.int .i64 (-1))) (h1 : 1 ≤ N) (hN : N ≤ 4000000) :
    Calls Try.prog 120 #[.slice (some ⟨s, o, none⟩) 1 cap, .int .i64 (N : Int)] w fun e w' => e = .returned (.slice (some ⟨w.heap.size, 0, none⟩) N N) ∧ w'.heap[w.heap.size]? = some (.cells (List.replicate N (.int .i64 (-1))).toArray 3 (0, 0)) ∧ Below w.heap.size w w' := by
  obtain ⟨ii, hii, hzi0, hzi1, hzi2⟩ := info_parts Try.info_int
  have hmk := run_make_row' (P := Try.prog) 22 3 (.int .i64 0) 8 Try.underlying22 Try.info_int rfl .i64 .i64 N (by omega) (by omega)
  go_enter Try.func120, Try.ntmps120
  have hmul : Calls Try.prog 128 #[.int .u64 1, .int .u64 (N : Int)] w fun e w' => e = .returned (.tuple #[.int .u64 0, .int .u64 (N : Int)]) ∧ w' = w := by
    refine (Try.bits_Mul 1 N (by omega) (by omega) w).mono ?_
    rintro e w1 ⟨rfl, rfl⟩
    refine ⟨?_, rfl⟩
    rw [show 1 * N / 18446744073709551616 = 0 by omega, show 1 * N % 18446744073709551616 = N by omega]
    rfl
  have hs := cellLt hc
  have hi1 : (N : Int) ≤ 9223372036854775807 := by omega
  have hi2 : ¬ (N : Int) < 0 := by omega
  have hm1 : [Value.int .i64 (-1)].length = Nat.min 1 N := (Nat.min_eq_left h1).symm
  have hrow0 : (w.alloc (.cells (madeCells #[.int .i64 0] N) 3)).heap[w.heap.size]? = some (.cells (List.replicate N (.int .i64 0)).toArray 3 (0, 0)) := by rw [new_at rfl, toArray_madeCells]
  have hsrc0 : ∀ (j : Nat) (v : Value), [Value.int .i64 (-1)][j]? = some v → (w.alloc (.cells (madeCells #[.int .i64 0] N) 3)).cell? ((⟨s, o, none⟩ : Addr).add j) = some v := by
    intro j v hj
    cases j with
    | zero => simp at hj; subst hj; exact (World.cell?_alloc_lt _ _ _ hs).trans hc
    | succ j => simp at hj
  have hbel0 : Below w.heap.size w (w.alloc (.cells (madeCells #[.int .i64 0] N) 3)) := (Below.refl _ _).alloc (Nat.le_refl _) _
  have hsz1 : (Try.prog.info? 3).map (·.size) = some 1 := by rw [hii]; simp [hzi1]
  go_wp2_with (first | (go_at_call 128; refine hmul.mono ?_; rintro e w1 ⟨rfl, rfl⟩) | (with_reducible refine wpList_copy_splice rfl (.tmp 31) (.tmp 32) 22 22 rfl 3 Try.underlying22 hsz1 (some ⟨w1.heap.size, 0, none⟩) (some ⟨s, o, none⟩) N N 1 cap rfl rfl w1.heap.size 0 (List.replicate N (.int .i64 0)) 3 hrow0 [.int .i64 (-1)] hm1 (fun _ => ⟨rfl, _, rfl, hsrc0⟩) (by simp; omega) (by simp [Value.oneCell']) w1.heap.size w1 hbel0 (Nat.le_refl _) ?_; intro w2 hrow hb2))
  have hfill : Hid (w2.heap[w1.heap.size]? = some (.cells (fillTo N 1 (.int .i64 (-1))).toArray 3 (0, 0))) := by
    have := hrow.out
    rw [show ([Value.int .i64 (-1)] : List Value) = List.replicate 1 (.int .i64 (-1)) from rfl, fillTo_splice0 _ h1] at this
    exact Lib.hid this
  clear hmul hrow hbel0 hsrc0 hrow0 hm1 hmk
  go_loopw [8] (fun i wr => ∃ m : Nat, i = .int .i64 (m : Int) ∧ 1 ≤ m ∧ (m : Int) ≤ N ∧ Hid (wr.heap[w1.heap.size]? = some (.cells (fillTo N m (.int .i64 (-1))).toArray 3 (0, 0))) ∧ Below w1.heap.size w1 wr) (fun i _ => N - (intOf i).toNat)
  case atStart => exact ⟨1, rfl, by omega, by omega, hfill, hb2⟩
  case round =>
    obtain ⟨m, rfl, hm1, hmN, hrow, hbr⟩ := hrel
    by_cases hlt : (m : Int) < N
    · have e1 : (m : Int) ≤ N := by omega
      have e2 : (0 : Int) ≤ m := by omega
      go_wp2
      obtain ⟨w3, hrun, hrow3, hb3⟩ : ∃ w3 : World, (Sem.run Try.prog (Builtin.copy_ #[22, 22] 3 #[.slice (some ⟨w1.heap.size, m, none⟩) (N - m) (N - m), .slice (some ⟨w1.heap.size, 0, none⟩) m N]) wr.drew = .ok (.int .i64 ((min m (N - m) : Nat) : Int)) w3.drew) ∧ Hid (w3.heap[w1.heap.size]? = some (.cells (fillTo N (m + min m (N - m)) (.int .i64 (-1))).toArray 3 (0, 0))) ∧ Below w1.heap.size w1 w3 := by
        refine ⟨wr.setRow w1.heap.size (splice (fillTo N m (.int .i64 (-1))) m (List.replicate (min m (N - m)) (.int .i64 (-1)))).toArray, ?_, ?_, below_setRow hbr (Nat.le_refl _) _⟩
        · have := run_copy_row (P := Try.prog) wr.drew 22 22 3 3 w1.heap.size m (N - m) (N - m) ⟨w1.heap.size, 0, none⟩ m N (fillTo N m (.int .i64 (-1))).toArray 3 (List.replicate (min m (N - m)) (.int .i64 (-1))) Try.underlying22 hsz1 hrow.out
            (by rw [List.length_replicate]) (fun j v hj => by
              have hjl : j < min m (N - m) := by
                have := (List.getElem?_eq_some_iff.1 hj).1; simpa using this
              rw [List.getElem?_replicate, if_pos hjl] at hj
              cases hj
              have ea : (⟨w1.heap.size, 0, none⟩ : Addr).add j = ⟨w1.heap.size, j, none⟩ := by by_cases h : j = 0 <;> simp [Addr.add, h]
              rw [ea]
              refine cell_of_blk (w := wr.drew) (b := w1.heap.size) (cs := (fillTo N m (.int .i64 (-1))).toArray) hrow.out ?_
              simp only [List.getElem?_toArray]
              exact fillTo_get _ (by omega)) (by simp [fillTo]; omega) (by intro v hv; rw [List.eq_of_mem_replicate hv]; rfl)
          rw [List.length_replicate] at this
          refine (this.trans ?_)
          unfold splice
          simp only [List.append_assoc, List.length_replicate]
          rfl
        · have := setRow_heap wr w1.heap.size _ (splice (fillTo N m (.int .i64 (-1))) m (List.replicate (min m (N - m)) (.int .i64 (-1)))).toArray _ _ hrow.out
          rw [fillTo_splice _ (by omega)] at this ⊢
          exact Lib.hid this
      clear hrow hbr
      go_wp2
      go_region
      go_wp2
      go_roundw
      case rel => exact ⟨m + min m (N - m), by rw [Int.natCast_add], by omega, by omega, hrow3, ⟨hb3.os, hb3.tape, hb3.output, hb3.size, hb3.block⟩⟩
      case measure => simp [intOf]; omega
    · go_wp2
      go_ret
      have : m = N := by omega
      subst this
      refine ⟨rfl, ?_, hbr⟩
      have := hrow.out
      rw [fillTo_full] at this
      simpa using this
end Go.Proofs.Ytojclalkfhoooaa
