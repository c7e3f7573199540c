/-
  The law IrDepth, walked. Printed by tools/ldep.py.
-/
import Derived.Test.YtojclalkfhoooaaDep
set_option linter.unusedVariables false
set_option linter.unusedSimpArgs false
namespace Go.Proofs.Ytojclalkfhoooaa
open Go.RowKit

theorem i64_r (x : Int) (h1 : -100 ≤ x) (h2 : x ≤ 100) : I64 x := ⟨by omega, by omega⟩
theorem i64_c (x : Int) (h : (decide (-100 ≤ x) && decide (x ≤ 100)) = true) : I64 x := by
  simp only [Bool.and_eq_true, decide_eq_true_eq] at h
  exact i64_r x h.1 h.2
theorem dep_sized : SizedP depP := by
  intro f hf
  simp only [depP, List.mem_cons, List.not_mem_nil, or_false] at hf
  rcases hf with rfl | rfl
  · refine ⟨⟨by decide, fun b hb => ?_⟩, fun b hb => ?_⟩
    all_goals (rw [List.mem_singleton] at hb; subst hb; decide)
  · refine ⟨⟨by decide, fun b hb => ?_⟩, fun b hb => ?_⟩
    all_goals (simp only [depF, List.mem_cons, List.not_mem_nil, or_false] at hb; rcases hb with rfl | rfl | rfl <;> decide)
theorem dep_in {w0 W : World} (hW : (((((((((((w0.alloc (.cells #[.int .i64 0] 3)).alloc (.cells #[.int .i64 1, .slice none 0 0, .int .i64 2, .slice none 0 0] 75)).alloc (.cells #[.int .i64 2] 3)).alloc (.cells #[.int .i64 1, .int .i64 1, .int .i64 0, .int .i64 0, .int .u16 1, .slice none 0 0, .int .i64 6, .int .i64 2, .int .i64 0, .int .i64 1, .int .u16 0, .slice none 0 0, .int .i64 26, .int .i64 3, .int .i64 1, .int .i64 0, .int .u16 0, .slice (some ⟨w0.heap.size + 1 + 1, 0, none⟩) 1 1, .int .i64 5, .int .i64 4, .int .i64 3, .int .i64 1, .int .u16 0, .slice none 0 0] 77)).alloc (.cells #[.slice (some ⟨w0.heap.size, 0, none⟩) 1 1, .slice none 0 0, .int .i64 2, .int .i64 0, .slice (some ⟨w0.heap.size + 1, 0, none⟩) 2 2, .slice none 0 0, .slice (some ⟨w0.heap.size + 1 + 1 + 1, 0, none⟩) 4 4, .int .i64 4, .int .i64 4, .slice none 0 0, .slice none 0 0, .slice none 0 0, .int .i64 4, .int .i64 0, .slice none 0 0] 49)).alloc (.cells #[.slice (some ⟨w0.heap.size + 1 + 1 + 1 + 1, 0, none⟩) 3 3] 43)).alloc (.cells #[.slice none 0 0, .slice none 0 0, .int .i64 5, .int .i64 0, .slice none 0 0] 49)).alloc (.cells #[.slice (some ⟨w0.heap.size + 1 + 1 + 1 + 1 + 1 + 1, 0, none⟩) 1 1] 43)).alloc (.cells #[.slice (some ⟨w0.heap.size + 1 + 1 + 1 + 1 + 1 + 1, 0, none⟩) 1 1, .slice (some ⟨w0.heap.size + 1 + 1 + 1 + 1, 0, none⟩) 3 3] 43)).alloc (.cells #[.int .i64 0, .int .i64 1] 3)).alloc (.cells #[.slice (some ⟨w0.heap.size + 1 + 1 + 1 + 1 + 1 + 1 + 1 + 1, 0, none⟩) 2 2, .slice (some ⟨w0.heap.size + 1 + 1 + 1 + 1 + 1 + 1 + 1 + 1 + 1, 0, none⟩) 2 2, .int .i64 0, .int .i64 (-1), .slice none 0 0, .slice none 0 0] 29)) = W) : ProgIn W W.heap.size ⟨.slice (some ⟨w0.heap.size + 1 + 1 + 1 + 1 + 1 + 1 + 1 + 1, 0, none⟩) 2 2, .slice (some ⟨w0.heap.size + 1 + 1 + 1 + 1 + 1 + 1 + 1 + 1 + 1, 0, none⟩) 2 2, .slice none 0 0, .slice none 0 0⟩ depP := by
  have g0 : W.heap[w0.heap.size]? = some (.cells #[.int .i64 0] 3 (0, 0)) := by rw [← hW]; exact alloc_blk (alloc_blk (alloc_blk (alloc_blk (alloc_blk (alloc_blk (alloc_blk (alloc_blk (alloc_blk (alloc_blk (new_at rfl))))))))))
  have g1 : W.heap[w0.heap.size + 1]? = some (.cells #[.int .i64 1, .slice none 0 0, .int .i64 2, .slice none 0 0] 75 (0, 0)) := by rw [← hW]; exact alloc_blk (alloc_blk (alloc_blk (alloc_blk (alloc_blk (alloc_blk (alloc_blk (alloc_blk (alloc_blk (new_at (by simp))))))))))
  have g2 : W.heap[w0.heap.size + 1 + 1]? = some (.cells #[.int .i64 2] 3 (0, 0)) := by rw [← hW]; exact alloc_blk (alloc_blk (alloc_blk (alloc_blk (alloc_blk (alloc_blk (alloc_blk (alloc_blk (new_at (by simp)))))))))
  have g3 : W.heap[w0.heap.size + 1 + 1 + 1]? = some (.cells #[.int .i64 1, .int .i64 1, .int .i64 0, .int .i64 0, .int .u16 1, .slice none 0 0, .int .i64 6, .int .i64 2, .int .i64 0, .int .i64 1, .int .u16 0, .slice none 0 0, .int .i64 26, .int .i64 3, .int .i64 1, .int .i64 0, .int .u16 0, .slice (some ⟨w0.heap.size + 1 + 1, 0, none⟩) 1 1, .int .i64 5, .int .i64 4, .int .i64 3, .int .i64 1, .int .u16 0, .slice none 0 0] 77 (0, 0)) := by rw [← hW]; exact alloc_blk (alloc_blk (alloc_blk (alloc_blk (alloc_blk (alloc_blk (alloc_blk (new_at (by simp))))))))
  have g4 : W.heap[w0.heap.size + 1 + 1 + 1 + 1]? = some (.cells #[.slice (some ⟨w0.heap.size, 0, none⟩) 1 1, .slice none 0 0, .int .i64 2, .int .i64 0, .slice (some ⟨w0.heap.size + 1, 0, none⟩) 2 2, .slice none 0 0, .slice (some ⟨w0.heap.size + 1 + 1 + 1, 0, none⟩) 4 4, .int .i64 4, .int .i64 4, .slice none 0 0, .slice none 0 0, .slice none 0 0, .int .i64 4, .int .i64 0, .slice none 0 0] 49 (0, 0)) := by rw [← hW]; exact alloc_blk (alloc_blk (alloc_blk (alloc_blk (alloc_blk (alloc_blk (new_at (by simp)))))))
  have g5 : W.heap[w0.heap.size + 1 + 1 + 1 + 1 + 1]? = some (.cells #[.slice (some ⟨w0.heap.size + 1 + 1 + 1 + 1, 0, none⟩) 3 3] 43 (0, 0)) := by rw [← hW]; exact alloc_blk (alloc_blk (alloc_blk (alloc_blk (alloc_blk (new_at (by simp))))))
  have g6 : W.heap[w0.heap.size + 1 + 1 + 1 + 1 + 1 + 1]? = some (.cells #[.slice none 0 0, .slice none 0 0, .int .i64 5, .int .i64 0, .slice none 0 0] 49 (0, 0)) := by rw [← hW]; exact alloc_blk (alloc_blk (alloc_blk (alloc_blk (new_at (by simp)))))
  have g7 : W.heap[w0.heap.size + 1 + 1 + 1 + 1 + 1 + 1 + 1]? = some (.cells #[.slice (some ⟨w0.heap.size + 1 + 1 + 1 + 1 + 1 + 1, 0, none⟩) 1 1] 43 (0, 0)) := by rw [← hW]; exact alloc_blk (alloc_blk (alloc_blk (new_at (by simp))))
  have g8 : W.heap[w0.heap.size + 1 + 1 + 1 + 1 + 1 + 1 + 1 + 1]? = some (.cells #[.slice (some ⟨w0.heap.size + 1 + 1 + 1 + 1 + 1 + 1, 0, none⟩) 1 1, .slice (some ⟨w0.heap.size + 1 + 1 + 1 + 1, 0, none⟩) 3 3] 43 (0, 0)) := by rw [← hW]; exact alloc_blk (alloc_blk (new_at (by simp)))
  have g9 : W.heap[w0.heap.size + 1 + 1 + 1 + 1 + 1 + 1 + 1 + 1 + 1]? = some (.cells #[.int .i64 0, .int .i64 1] 3 (0, 0)) := by rw [← hW]; exact alloc_blk (new_at (by simp))
  have g10 : W.heap[w0.heap.size + 1 + 1 + 1 + 1 + 1 + 1 + 1 + 1 + 1 + 1]? = some (.cells #[.slice (some ⟨w0.heap.size + 1 + 1 + 1 + 1 + 1 + 1 + 1 + 1, 0, none⟩) 2 2, .slice (some ⟨w0.heap.size + 1 + 1 + 1 + 1 + 1 + 1 + 1 + 1 + 1, 0, none⟩) 2 2, .int .i64 0, .int .i64 (-1), .slice none 0 0, .slice none 0 0] 29 (0, 0)) := by rw [← hW]; exact new_at (by simp)
  have hl : w0.heap.size + 1 + 1 + 1 + 1 + 1 + 1 + 1 + 1 + 1 + 1 < W.heap.size := lt_of_block g10
  clear hW
  have i0 : IntsIn W W.heap.size (.slice (some ⟨w0.heap.size, 0, none⟩) 1 1) [0] := ints_lit (xs := [0]) g0 (by omega) (by intro x hx; rw [List.mem_singleton] at hx; subst hx; exact i64_c _ rfl) (by decide)
  have i2 : IntsIn W W.heap.size (.slice (some ⟨w0.heap.size + 1 + 1, 0, none⟩) 1 1) [2] := ints_lit (xs := [2]) g2 (by omega) (by intro x hx; rw [List.mem_singleton] at hx; subst hx; exact i64_c _ rfl) (by decide)
  have ed : EdgesIn W W.heap.size (.slice (some ⟨w0.heap.size + 1, 0, none⟩) 2 2) [⟨1, []⟩, ⟨2, []⟩] := edges_lit (l := [(⟨1, []⟩, .slice none 0 0), (⟨2, []⟩, .slice none 0 0)]) g1 (by omega) (by
    intro q hq
    simp only [List.mem_cons, List.not_mem_nil, or_false] at hq
    rcases hq with rfl | rfl <;> exact ⟨i64_c _ rfl, Elems.nil⟩) (by show 2 ≤ 1000000; decide)
  have op : OpsIn W W.heap.size (.slice (some ⟨w0.heap.size + 1 + 1 + 1, 0, none⟩) 4 4) [⟨1, 1, 0, 0, 1, []⟩, ⟨6, 2, 0, 1, 0, []⟩, ⟨26, 3, 1, 0, 0, [2]⟩, ⟨5, 4, 3, 1, 0, []⟩] :=
    ops_lit (l := [(⟨1, 1, 0, 0, 1, []⟩, .slice none 0 0), (⟨6, 2, 0, 1, 0, []⟩, .slice none 0 0), (⟨26, 3, 1, 0, 0, [2]⟩, .slice (some ⟨w0.heap.size + 1 + 1, 0, none⟩) 1 1), (⟨5, 4, 3, 1, 0, []⟩, .slice none 0 0)]) g3 (by omega) (by
    intro q hq
    simp only [List.mem_cons, List.not_mem_nil, or_false] at hq
    rcases hq with rfl | rfl | rfl | rfl
    · exact ⟨⟨i64_c _ rfl, i64_c _ rfl, i64_c _ rfl, i64_c _ rfl, by decide⟩, Elems.nil⟩
    · exact ⟨⟨i64_c _ rfl, i64_c _ rfl, i64_c _ rfl, i64_c _ rfl, by decide⟩, Elems.nil⟩
    · exact ⟨⟨i64_c _ rfl, i64_c _ rfl, i64_c _ rfl, i64_c _ rfl, (by show 0 < 65536; omega)⟩, i2⟩
    · exact ⟨⟨i64_c _ rfl, i64_c _ rfl, i64_c _ rfl, i64_c _ rfl, by decide⟩, Elems.nil⟩) (by show 4 ≤ 1000000; decide)
  have bf : BlksIn W W.heap.size (.slice (some ⟨w0.heap.size + 1 + 1 + 1 + 1, 0, none⟩) 3 3) depF :=
    blks_lit (l := [⟨⟨[0], [], ⟨2, 0, [⟨1, []⟩, ⟨2, []⟩]⟩⟩, .slice (some ⟨w0.heap.size, 0, none⟩) 1 1, .slice none 0 0, .slice (some ⟨w0.heap.size + 1, 0, none⟩) 2 2⟩, ⟨⟨[], [⟨1, 1, 0, 0, 1, []⟩, ⟨6, 2, 0, 1, 0, []⟩, ⟨26, 3, 1, 0, 0, [2]⟩, ⟨5, 4, 3, 1, 0, []⟩], ⟨4, 4, []⟩⟩, .slice none 0 0, .slice (some ⟨w0.heap.size + 1 + 1 + 1, 0, none⟩) 4 4, .slice none 0 0⟩, ⟨⟨[], [], ⟨4, 0, []⟩⟩, .slice none 0 0, .slice none 0 0, .slice none 0 0⟩]) g4 (by omega) (by
    intro q hq
    simp only [List.mem_cons, List.not_mem_nil, or_false] at hq
    rcases hq with rfl | rfl | rfl
    · exact ⟨⟨i64_c _ rfl, i64_c _ rfl⟩, i0, Elems.nil, ed⟩
    · exact ⟨⟨i64_c _ rfl, i64_c _ rfl⟩, Elems.nil, op, Elems.nil⟩
    · exact ⟨⟨i64_c _ rfl, i64_c _ rfl⟩, Elems.nil, Elems.nil, Elems.nil⟩) (by show 3 ≤ 1000000; decide)
  have bm : BlksIn W W.heap.size (.slice (some ⟨w0.heap.size + 1 + 1 + 1 + 1 + 1 + 1, 0, none⟩) 1 1) [⟨[], [], ⟨5, 0, []⟩⟩] :=
    blks_lit (l := [⟨⟨[], [], ⟨5, 0, []⟩⟩, .slice none 0 0, .slice none 0 0, .slice none 0 0⟩]) g6 (by omega) (by
    intro q hq
    rw [List.mem_singleton] at hq
    subst hq
    exact ⟨⟨i64_c _ rfl, i64_c _ rfl⟩, Elems.nil, Elems.nil, Elems.nil⟩) (by show 1 ≤ 1000000; decide)
  refine ⟨?_, ints_lit (xs := [0, 1]) g9 (by omega) (by
    intro x hx
    simp only [List.mem_cons, List.not_mem_nil, or_false] at hx
    rcases hx with rfl | rfl <;> exact i64_c _ rfl) (by decide), Elems.nil, Elems.nil, i64_zero, i64_neg⟩
  exact one_lit (R := FuncR) (B := W.heap.size) (xs := [[⟨[], [], ⟨5, 0, []⟩⟩], depF]) (vs := [.slice (some ⟨w0.heap.size + 1 + 1 + 1 + 1 + 1 + 1, 0, none⟩) 1 1, .slice (some ⟨w0.heap.size + 1 + 1 + 1 + 1, 0, none⟩) 3 3]) g8 (by omega) rfl (by show 2 ≤ 1000000; decide) (fun k v x hv hx hc => by
    match k, hv, hx with
    | 0, hv, hx => cases hv; cases hx; exact ⟨_, hc, bm⟩
    | 1, hv, hx => cases hv; cases hx; exact ⟨_, hc, bf⟩)
set_option maxHeartbeats 4000000 in
set_option maxRecDepth 100000 in
theorem law_depth (w : World) (o : Nat) (ho : o < 256) :
    Calls Try.prog 10 #[.int .u8 (o : Int)] w fun e w' => e = .returned (.bool true) ∧ Below w.heap.size w w' := by
  obtain ⟨S, hS⟩ : ∃ S, ramStr (ramOf ⟨#[]⟩) = S := ⟨_, rfl⟩
  have HS := Lib.hid hS
  clear hS
  obtain ⟨k, hk⟩ : ∃ k, o % 250 = k := ⟨_, rfl⟩
  have hkI : (o : Int) % 250 = (k : Int) := by omega
  have hk250 : k < 250 := by omega
  clear hk
  go_enter Try.func10, Try.ntmps10
  go_upto_region 3 with (go_at_call 17; go_must (refine (sanity_any _).mono ?_; rintro e w0 ⟨rfl, hb0⟩))
  have HB0 := Lib.hid hb0
  clear hb0
  go_upto_region 6 with fail
  generalize hW : ((((((((((w0.alloc (.cells #[.int .i64 0] 3)).alloc (.cells #[.int .i64 1, .slice none 0 0, .int .i64 2, .slice none 0 0] 75)).alloc (.cells #[.int .i64 2] 3)).alloc (.cells #[.int .i64 1, .int .i64 1, .int .i64 0, .int .i64 0, .int .u16 1, .slice none 0 0, .int .i64 6, .int .i64 2, .int .i64 0, .int .i64 1, .int .u16 0, .slice none 0 0, .int .i64 26, .int .i64 3, .int .i64 1, .int .i64 0, .int .u16 0, .slice (some ⟨w0.heap.size + 1 + 1, 0, none⟩) 1 1, .int .i64 5, .int .i64 4, .int .i64 3, .int .i64 1, .int .u16 0, .slice none 0 0] 77)).alloc (.cells #[.slice (some ⟨w0.heap.size, 0, none⟩) 1 1, .slice none 0 0, .int .i64 2, .int .i64 0, .slice (some ⟨w0.heap.size + 1, 0, none⟩) 2 2, .slice none 0 0, .slice (some ⟨w0.heap.size + 1 + 1 + 1, 0, none⟩) 4 4, .int .i64 4, .int .i64 4, .slice none 0 0, .slice none 0 0, .slice none 0 0, .int .i64 4, .int .i64 0, .slice none 0 0] 49)).alloc (.cells #[.slice (some ⟨w0.heap.size + 1 + 1 + 1 + 1, 0, none⟩) 3 3] 43)).alloc (.cells #[.slice none 0 0, .slice none 0 0, .int .i64 5, .int .i64 0, .slice none 0 0] 49)).alloc (.cells #[.slice (some ⟨w0.heap.size + 1 + 1 + 1 + 1 + 1 + 1, 0, none⟩) 1 1] 43)).alloc (.cells #[.slice (some ⟨w0.heap.size + 1 + 1 + 1 + 1 + 1 + 1, 0, none⟩) 1 1, .slice (some ⟨w0.heap.size + 1 + 1 + 1 + 1, 0, none⟩) 3 3] 43)).alloc (.cells #[.int .i64 0, .int .i64 1] 3)).alloc (.cells #[.slice (some ⟨w0.heap.size + 1 + 1 + 1 + 1 + 1 + 1 + 1 + 1, 0, none⟩) 2 2, .slice (some ⟨w0.heap.size + 1 + 1 + 1 + 1 + 1 + 1 + 1 + 1 + 1, 0, none⟩) 2 2, .int .i64 0, .int .i64 (-1), .slice none 0 0, .slice none 0 0] 29) = W at *
  have hp := dep_in hW
  have hg : W.heap[w0.heap.size + 1 + 1 + 1 + 1 + 1 + 1 + 1 + 1 + 1 + 1]? = some (.cells #[.slice (some ⟨w0.heap.size + 1 + 1 + 1 + 1 + 1 + 1 + 1 + 1, 0, none⟩) 2 2, .slice (some ⟨w0.heap.size + 1 + 1 + 1 + 1 + 1 + 1 + 1 + 1 + 1, 0, none⟩) 2 2, .int .i64 0, .int .i64 (-1), .slice none 0 0, .slice none 0 0] 29 (0, 0)) := by rw [← hW]; exact new_at (by simp)
  have hbw : Below w0.heap.size w0 W := by rw [← hW]; exact (((((((((((Below.refl _ _).alloc (by exact Nat.le_refl _) _).alloc (by simp <;> omega) _).alloc (by simp <;> omega) _).alloc (by simp <;> omega) _).alloc (by simp <;> omega) _).alloc (by simp <;> omega) _).alloc (by simp <;> omega) _).alloc (by simp <;> omega) _).alloc (by simp <;> omega) _).alloc (by simp <;> omega) _).alloc (by simp <;> omega) _
  clear hW
  have HP := Lib.hid (And.intro hp hbw)
  have x0 : W.cell? ⟨w0.heap.size + 1 + 1 + 1 + 1 + 1 + 1 + 1 + 1 + 1 + 1, 0, none⟩ = some (.slice (some ⟨w0.heap.size + 1 + 1 + 1 + 1 + 1 + 1 + 1 + 1, 0, none⟩) 2 2) := cell_of_blk hg (by simp)
  have x1 : W.cell? ⟨w0.heap.size + 1 + 1 + 1 + 1 + 1 + 1 + 1 + 1 + 1 + 1, 1, none⟩ = some (.slice (some ⟨w0.heap.size + 1 + 1 + 1 + 1 + 1 + 1 + 1 + 1 + 1, 0, none⟩) 2 2) := cell_of_blk hg (by simp)
  have x2 : W.cell? ⟨w0.heap.size + 1 + 1 + 1 + 1 + 1 + 1 + 1 + 1 + 1 + 1, 2, none⟩ = some (.int .i64 0) := cell_of_blk hg (by simp)
  have x3 : W.cell? ⟨w0.heap.size + 1 + 1 + 1 + 1 + 1 + 1 + 1 + 1 + 1 + 1, 3, none⟩ = some (.int .i64 (-1)) := cell_of_blk hg (by simp)
  have x4 : W.cell? ⟨w0.heap.size + 1 + 1 + 1 + 1 + 1 + 1 + 1 + 1 + 1 + 1, 4, none⟩ = some (.slice none 0 0) := cell_of_blk hg (by simp)
  have x5 : W.cell? ⟨w0.heap.size + 1 + 1 + 1 + 1 + 1 + 1 + 1 + 1 + 1 + 1, 5, none⟩ = some (.slice none 0 0) := cell_of_blk hg (by simp)
  have hrun := dep_run hk250
  unfold depRun at hrun
  have hk16 : k < 65536 := by omega
  have hev : ∀ (X : World) (b : Nat), Below W.heap.size W X → X.heap[b]? = some (.cells #[.int .u16 (k : Int)] 39 (0, 0)) → Calls Try.prog 23 #[.agg #[.slice (some ⟨w0.heap.size + 1 + 1 + 1 + 1 + 1 + 1 + 1 + 1, 0, none⟩) 2 2, .slice (some ⟨w0.heap.size + 1 + 1 + 1 + 1 + 1 + 1 + 1 + 1 + 1, 0, none⟩) 2 2, .int .i64 0, .int .i64 (-1), .slice none 0 0, .slice none 0 0], .int .i64 1, .slice (some ⟨b, 0, none⟩) 1 1, .string ⟨#[]⟩, .agg #[.slice none 0 0, .slice none 0 0], .int .i64 100000] X (RetRunO X (depRun k)) := fun X b hb hc => by
    have := (eval_any ((HP.out.1.below hb).mono hb.size) dep_sized 1 (i64_c _ rfl) (u16s_lit (xs := [k]) hc (lt_of_block hc) (by intro x hx; rw [List.mem_singleton] at hx; omega) (by show 1 ≤ 1000000; decide)) ⟨#[]⟩ (by decide) Elems.nil Elems.nil 100000 ⟨by decide, by decide⟩ (by decide)).mono (fun e w' h => h.open)
    rw [show (⟨depP, [], []⟩ : IEnv) = depE from rfl, dep_run hk250] at this
    exact this
  by_cases h100 : 100 ≤ k
  · have hev2 : ∀ (X : World) (b : Nat), Below W.heap.size W X → X.heap[b]? = some (.cells #[.int .u16 (k : Int)] 39 (0, 0)) → Calls Try.prog 23 #[.agg #[.slice (some ⟨w0.heap.size + 1 + 1 + 1 + 1 + 1 + 1 + 1 + 1, 0, none⟩) 2 2, .slice (some ⟨w0.heap.size + 1 + 1 + 1 + 1 + 1 + 1 + 1 + 1 + 1, 0, none⟩) 2 2, .int .i64 0, .int .i64 (-1), .slice none 0 0, .slice none 0 0], .int .i64 1, .slice (some ⟨b, 0, none⟩) 1 1, .string ⟨#[]⟩, .agg #[.slice none 0 0, .slice none 0 0], .int .i64 100000] X (fun e w' => ∃ oa oc, e = .returned (.agg #[.int .u16 0, .slice oa 0 oc, .int .i64 5, .int .u16 0, .string S, .int .i64 0, .int .i64 0]) ∧ Below X.heap.size X w') := fun X b hb hc => by
      refine (hev X b hb hc).mono ?_
      rintro e w' ⟨oa, oc, he, _, hb⟩
      unfold depRun at he
      rw [if_pos h100] at he
      rw [← HS.out]
      exact ⟨oa, oc, he, hb⟩
    have HEV := Lib.hid hev2
    have t1 : decide ((100 : Int) < (k : Int) + 1) = true := decide_eq_true (by omega)
    clear hev hev2 hp hg hbw hrun h100
    go_wp2_with (first | (go_at_call 23; go_must (refine (HEV.out _ _ ((Below.refl _ _).alloc (Nat.le_refl _) _) (new_at rfl)).mono ?_; rintro e w2 ⟨oa, oc, rfl, hb2⟩; have HB2 := Lib.hid hb2; clear hb2)))
    go_ret
    refine ⟨rfl, ?_⟩
    exact HB0.out.trans ((HP.out.2.trans ((((Below.refl _ _).alloc (Nat.le_refl _) _).trans (HB2.out.mono (by simp))).alloc (by have h9 := HB2.out.size; simp at h9; omega) _ |>.mono HP.out.2.size)).mono HB0.out.size)
  · have hev2 : ∀ (X : World) (b : Nat), Below W.heap.size W X → X.heap[b]? = some (.cells #[.int .u16 (k : Int)] 39 (0, 0)) → Calls Try.prog 23 #[.agg #[.slice (some ⟨w0.heap.size + 1 + 1 + 1 + 1 + 1 + 1 + 1 + 1, 0, none⟩) 2 2, .slice (some ⟨w0.heap.size + 1 + 1 + 1 + 1 + 1 + 1 + 1 + 1 + 1, 0, none⟩) 2 2, .int .i64 0, .int .i64 (-1), .slice none 0 0, .slice none 0 0], .int .i64 1, .slice (some ⟨b, 0, none⟩) 1 1, .string ⟨#[]⟩, .agg #[.slice none 0 0, .slice none 0 0], .int .i64 100000] X (fun e w' => ∃ oa oc, e = .returned (.agg #[.int .u16 (k : Int), .slice oa 0 oc, .int .i64 6, .int .u16 0, .string S, .int .i64 0, .int .i64 0]) ∧ Below X.heap.size X w') := fun X b hb hc => by
      refine (hev X b hb hc).mono ?_
      rintro e w' ⟨oa, oc, he, _, hb⟩
      unfold depRun at he
      rw [if_neg h100] at he
      rw [← HS.out]
      exact ⟨oa, oc, he, hb⟩
    have HEV := Lib.hid hev2
    have t1 : decide ((100 : Int) < (k : Int) + 1) = false := decide_eq_false (by omega)
    clear hev hev2 hp hg hbw hrun h100
    go_wp2_with (first | (go_at_call 23; go_must (refine (HEV.out _ _ ((Below.refl _ _).alloc (Nat.le_refl _) _) (new_at rfl)).mono ?_; rintro e w2 ⟨oa, oc, rfl, hb2⟩; have HB2 := Lib.hid hb2; clear hb2)))
    go_ret
    refine ⟨rfl, ?_⟩
    exact HB0.out.trans ((HP.out.2.trans ((((Below.refl _ _).alloc (Nat.le_refl _) _).trans (HB2.out.mono (by simp))).alloc (by have h9 := HB2.out.size; simp at h9; omega) _ |>.mono HP.out.2.size)).mono HB0.out.size)
end Go.Proofs.Ytojclalkfhoooaa
