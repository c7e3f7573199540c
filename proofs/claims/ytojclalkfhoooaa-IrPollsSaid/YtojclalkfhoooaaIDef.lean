/-
  Eval's deferred closure: of a frame that panics with an ending; of a frame that returns.
-/
import Derived.Test.YtojclalkfhoooaaIFin
import Derived.Defers
import Derived.Recover
set_option linter.unusedVariables false
set_option linter.unusedSimpArgs false
namespace Go.Proofs.Ytojclalkfhoooaa
open Go.RowKit

theorem rec_idle (p : Addr) (w : World) :
    CallsD Try.prog 51 #[.pointer (some p)] .returning w fun e u' w' => e = .returned (.tuple #[]) ∧ u' = .returning ∧ w = w' := by
  refine callsD_of_wpS Try.func51 rfl fun c₀ cs hu => ?_
  apply wpS_seq
  apply wpS_region
  simp [wpOpsS, go_sem, recoverD, hu, Try.ntmps51, Exit.thenS]
  apply wpS_seq
  apply wpS_seq
  apply wpS_region
  simp [wpOpsS, go_sem, recoverD, hu, Try.ntmps51, Exit.thenS]
  refine wpS_cond (t := true) (by simp [Act.eval, Array.replicate]) ?_
  simp only [if_true]
  refine wpS_of_wp (wp_ret ?_)
  cases c₀
  simp_all [Exit.thenS, bodyPostS, results, Try.results51]
theorem assert_end (v : Value) (w : World) : (Instr.typeAssert (.iface 107 v) 20 107 true).run Try.prog w = .ok (.tuple #[v, .bool true]) w := by kernel_rfl
set_option maxRecDepth 100000 in
theorem rec_panicking {w : World} {K : MK} {m : Mach} {ov : Value} (h : MachAt w K m ov) {b12 b13 b14 : Nat} (h13 : w.heap[b13]? = some (.cells #[.pointer (some ⟨K.pm, 0, none⟩)] 102 (0, 0))) (h12 : w.heap[b12]? = some (.cells #[.int .u16 0, .slice none 0 0, .int .i64 0, .int .u16 0, .string { data := #[] }, .int .i64 0, .int .i64 0] 57 (0, 0)))
    (h14 : w.cell? ⟨b14, 0, none⟩ = some (.func (.func 50) #[] #[.pointer (some ⟨b13, 0, none⟩), .pointer (some ⟨b12, 0, none⟩)])) (k i : Nat) (older : List PanicEntry) :
    CallsD Try.prog 51 #[.pointer (some ⟨b14, 0, none⟩)] (.panicking (endP k i :: older)) w fun e u' w' =>
      e = .returned (.tuple #[]) ∧ u' = .panicking ({ endP k i with recovered := true } :: older) ∧ w'.heap[b12]? = some (.cells (runCells 0 ov k i (ramStr m.ram) m.inputs m.polls) 57 (0, 0)) ∧ w.grownBy w' (some b12) := by
  refine callsD_of_wpS Try.func51 rfl fun c₀ cs hu => ?_
  unfold endP at hu ⊢
  apply wpS_seq
  apply wpS_region
  simp [wpOpsS, go_sem, recoverD, hu, Try.ntmps51, Exit.thenS]
  apply wpS_seq
  apply wpS_seq
  apply wpS_region
  simp [wpOpsS, go_sem, recoverD, hu, Try.ntmps51, Exit.thenS]
  refine wpS_cond (t := false) (by simp [Act.eval, Array.replicate]) ?_
  simp only [Bool.false_eq_true, if_false]
  refine wpS_of_wp (wp_skip ?_)
  simp only [Exit.thenS]
  refine wpS_of_wp ?_
  have hta := assert_end (.agg #[.int .i64 (k : Int), .int .u16 (i : Int)])
  have HH := Lib.hid h
  have HU := Lib.hid hu
  have H2 := Lib.hid (And.intro h13 h12)
  clear h hu h13 h12
  have e : (#[Value.pointer (some ⟨b14, 0, none⟩)] ++ (((((Array.replicate 18 undef).setIfInBounds 3 (Value.iface 107 (.agg #[.int .i64 (k : Int), .int .u16 (i : Int)]))).setIfInBounds 0 (Value.iface 107 (.agg #[.int .i64 (k : Int), .int .u16 (i : Int)]))).setIfInBounds 4 (Value.iface 107 (.agg #[.int .i64 (k : Int), .int .u16 (i : Int)]))).setIfInBounds 5 (Value.bool false)) : Array Value) = #[.pointer (some ⟨b14, 0, none⟩), .iface 107 (.agg #[.int .i64 (k : Int), .int .u16 (i : Int)]), undef, undef, .iface 107 (.agg #[.int .i64 (k : Int), .int .u16 (i : Int)]), .iface 107 (.agg #[.int .i64 (k : Int), .int .u16 (i : Int)]), .bool false, undef, undef, undef, undef, undef, undef, undef, undef, undef, undef, undef, undef] := by
    simp [Array.replicate, List.replicate]
  rw [e]
  clear e
  have hl14 := World.block_lt_of_cell? w _ h14
  have h14a : (w.alloc (.cells #[.int .i64 (k : Int), .int .u16 (i : Int)] 107)).cell? ⟨b14, 0, none⟩ = _ := (World.cell?_of_block (w := w) (Below.heap_alloc _ _ _ hl14)).trans h14
  have hM := HH.out.keep ((Below.refl _ _).alloc (Nat.le_refl _) (.cells #[.int .i64 (k : Int), .int .u16 (i : Int)] 107))
  have hF := Lib.hid (finish_any hM (b12 := b12) (b13 := b13) (alloc_blk H2.out.1) (alloc_blk H2.out.2) k i 0)
  clear hM
  go_wp2_with (go_at_call 50; go_must (refine hF.out.mono ?_; rintro e w4 ⟨rfl, h5, h6⟩))
  have hg : w.grownBy w4 (some b12) := ⟨h6.os, h6.tape, h6.output, Nat.le_trans (by simp) h6.size, fun q hq hn => (h6.block q (by simp; omega) hn).trans (Below.heap_alloc _ _ _ hq)⟩
  have hu := HU.out
  cases c₀
  simp only at hu
  simp [bodyPostS, results, Try.results51, h5, hg]
end Go.Proofs.Ytojclalkfhoooaa
