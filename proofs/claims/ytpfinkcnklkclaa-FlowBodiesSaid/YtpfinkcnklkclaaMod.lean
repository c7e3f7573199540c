/-
  The walks of the reference's mod and of the laws' graph.
-/
import Derived.Test.YtpfinkcnklkclaaMem
set_option linter.unusedVariables false
set_option linter.unusedSimpArgs false
namespace Go.Proofs.Ytpfinkcnklkclaa
open Go.RowKit

theorem mod_law (n m : Int) (hm : 0 < m) : (n.tmod m + m).tmod m = n % m := by
  have h1 : -m < n.tmod m := by have := Int.lt_tmod_of_pos n hm; omega
  rw [Int.tmod_eq_emod_of_nonneg (by omega), Int.add_emod_right, Int.tmod_def, Int.sub_mul_emod_self_left]

theorem mod_any (w : World) (n m : Int) (hn : -9223372036854775808 ≤ n ∧ n ≤ 9223372036854775807) (hm : 0 < m ∧ m ≤ 1000000) :
    Calls Try.prog 48 #[.int .i64 n, .int .i64 m] w fun e w' => e = .returned (.int .i64 (n % m)) ∧ w' = w := by
  have hm0 : (m == 0) = false := by simp; omega
  have h1 : -m < n.tmod m := by have := Int.lt_tmod_of_pos n hm.1; omega
  have h2 : n.tmod m < m := Int.tmod_lt_of_pos n hm.1
  have hlaw := mod_law n m hm.1
  go_enter Try.func48, Try.ntmps48
  go_wp2
  go_ret
  exact ⟨rfl, rfl⟩

theorem results_cell1 {fn : Func} {p : Tmp} {ty : TypeId} (h : fn.results = #[.cell p ty]) (tmps : Array Value) (P : Program) (w : World) :
    (results fn tmps).run P w = ((asAddr (tmps.getD p undef)).run P w).andThen fun a w₁ => (loadVar ty a).run P w₁ := by
  simp only [results, h]
  simp [Sem.run_bind, Result.andThen]

theorem graph_any (w : World) (a : Option Addr) (n cap : Nat) :
    Calls Try.prog 35 #[.slice a n cap] w fun e w' => e = .returned (.agg #[.slice a n cap]) ∧ Below w.heap.size w w' := by
  go_enter Try.func35, Try.ntmps35
  go_wp2
  try simp only [Exit.inBlock, Exit.then]
  refine bodyPost_ret (v := .agg #[.slice a n cap]) ?_ rfl ⟨rfl, (Below.refl _ _).alloc (Nat.le_refl _) _⟩
  rw [results_cell1 rfl]
  go_simp
end Go.Proofs.Ytpfinkcnklkclaa
