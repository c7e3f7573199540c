/-
  The law IrPolls, walked.
-/
import Derived.Test.YtojclalkfhoooaaPl2
import Derived.Test.YtojclalkfhoooaaISml2
set_option linter.unusedVariables false
set_option linter.unusedSimpArgs false
namespace Go.Proofs.Ytojclalkfhoooaa
open Go.RowKit

theorem i64_r (x : Int) (h1 : -100 ≤ x) (h2 : x ≤ 100) : I64 x := ⟨by omega, by omega⟩
theorem i64_c (x : Int) (h : (decide (-100 ≤ x) && decide (x ≤ 100)) = true) : I64 x := by
  simp only [Bool.and_eq_true, decide_eq_true_eq] at h
  exact i64_r x h.1 h.2
def pollC : IOp × Value := (pollOp, .slice none 0 0)
/-- The operations appended so far, in a row of their own. -/
def PollMem (w wx : World) (ov : Value) (i : Nat) : Prop := wx.ownsRow w.heap.size 77 6 ov i ((List.replicate i pollC).flatMap opCells) ∧ Below w.heap.size w wx
theorem poll_mem {X1 Y w9 : World} {S bf c1 : Nat} {v0 : Value} {B0 : List IBlk} {oa9 : Option Addr} {oc9 : Nat} {cs : Array Value} (hY : Below X1.heap.size X1 Y) (y1 : Y.heap[X1.heap.size]? = some (.cells #[.int .i64 24, .int .i64 0, .int .i64 0, .int .i64 0, .int .u16 1, .slice none 0 0, .int .i64 25, .int .i64 (-1), .int .i64 0, .int .i64 0, .int .u16 2, .slice none 0 0] 77 (0, 0))) (y2 : Y.heap[X1.heap.size + 1]? = some (.cells #[.slice none 0 0, .slice (some ⟨X1.heap.size, 0, none⟩) 2 2, .int .i64 4, .int .i64 0, .slice none 0 0] 49 (0, 0)))
    (yx : Y.heap[c1]? = some (.cells cs 29 (0, 0))) (hbl : BlksIn X1 bf v0 B0) (hcs : c1 < X1.heap.size ∧ bf < c1) (hg : Y.grownBy w9 (some bf)) (hown : w9.ownsRow S 43 1 (.slice oa9 2 oc9) 2 [v0, .slice (some ⟨X1.heap.size + 1, 0, none⟩) 1 1]) :
    (∀ W : World, w9.heap.size ≤ W.heap.size → (W.os = w9.os ∧ W.tape = w9.tape ∧ W.output = w9.output) → (∀ k, k < w9.heap.size → k ≠ c1 → W.heap[k]? = w9.heap[k]?) → FuncsIn W W.heap.size (.slice oa9 2 oc9) [B0, hndB]) ∧ (w9.setCell ⟨c1, 0, none⟩ (.slice oa9 2 oc9)).heap[c1]? = some (.cells (cs.setIfInBounds 0 (.slice oa9 2 oc9)) 29 (0, 0)) ∧ ∀ B, B ≤ bf → Below B X1 (w9.setCell ⟨c1, 0, none⟩ (.slice oa9 2 oc9)) := by
  have hz := grown_blk hg yx (by simp; omega)
  have hB : ∀ B, B ≤ bf → Below B X1 (w9.setCell ⟨c1, 0, none⟩ (.slice oa9 2 oc9)) := fun B hB => (((hY.mono (by omega)).grown hg (by have := hY.size; omega) (fun k hk => by cases hk; exact hB)).setCell (by show B ≤ c1; omega) _)
  refine ⟨fun W hWs hWo hWk => ?_, heap_setCell_self hz _, hB⟩
  have y1' := grown_blk hg y1 (by simp; omega)
  have y2' := grown_blk hg y2 (by simp; omega)
  have z1 := (hWk _ (lt_of_block y1') (by omega)).trans y1'
  have z2 := (hWk _ (lt_of_block y2') (by omega)).trans y2'
  have hown2 := own_step hown (w' := W) (fun k hk => hWk k (hown.lt k hk).2 (fun e => ownsRow_block_ne hown hz (.inr (by decide)) (by rw [hk, e])))
  have hbW : Below bf X1 W := ⟨hWo.1.trans (hB bf (Nat.le_refl _)).os, hWo.2.1.trans (hB bf (Nat.le_refl _)).tape, hWo.2.2.trans (hB bf (Nat.le_refl _)).output, by have := hY.size; have := hg.size; omega, fun k hk => (hWk k (by have := hY.size; have := hg.size; omega) (by omega)).trans ((Below.heap_setCell w9 ⟨c1, 0, none⟩ (.slice oa9 2 oc9) k (by show k ≠ c1; omega)).symm.trans ((hB bf (Nat.le_refl _)).block k hk))⟩
  refine funcs_own (l := [(B0, v0), (hndB, .slice (some ⟨X1.heap.size + 1, 0, none⟩) 1 1)]) hown2 (fun q hq => ?_)
  simp only [List.mem_cons, List.not_mem_nil, or_false] at hq
  have hsz := hbW.size
  rcases hq with rfl | rfl
  · exact (hbl.below blkR_stable hbW).mono blkR_stable (by omega)
  · have op : OpsIn _ _ (.slice (some ⟨X1.heap.size, 0, none⟩) 2 2) [⟨24, 0, 0, 0, 1, []⟩, ⟨25, -1, 0, 0, 2, []⟩] :=
      ops_lit (l := [(⟨24, 0, 0, 0, 1, []⟩, .slice none 0 0), (⟨25, -1, 0, 0, 2, []⟩, .slice none 0 0)]) z1 (lt_of_block z1) (by
        intro q hq
        simp only [List.mem_cons, List.not_mem_nil, or_false] at hq
        rcases hq with rfl | rfl
        · exact ⟨⟨i64_c _ rfl, i64_c _ rfl, i64_c _ rfl, i64_c _ rfl, by decide⟩, Elems.nil⟩
        · exact ⟨⟨i64_c _ rfl, i64_c _ rfl, i64_c _ rfl, i64_c _ rfl, by decide⟩, Elems.nil⟩) (by show 2 ≤ 1000000; decide)
    exact blks_lit (l := [⟨⟨[], [⟨24, 0, 0, 0, 1, []⟩, ⟨25, -1, 0, 0, 2, []⟩], ⟨4, 0, []⟩⟩, .slice none 0 0, .slice (some ⟨X1.heap.size, 0, none⟩) 2 2, .slice none 0 0⟩]) z2 (lt_of_block z2) (by
      intro q hq
      simp only [List.mem_cons, List.not_mem_nil, or_false] at hq
      rcases hq with rfl
      exact ⟨⟨i64_c _ rfl, i64_c _ rfl⟩, Elems.nil, op, Elems.nil⟩) (by show 1 ≤ 1000000; decide)
theorem hits_lt (irq : List Nat) (h : Bool) {i : Nat} (hi : i < 40) : hits irq h i < 40 := Nat.lt_of_le_of_lt (hits_le irq h i) hi
theorem poll_call {W : World} {i ga gi cap oc9 : Nat} {oa9 a : Option Addr} {q : List Nat} {S : ByteArray} (hi : i < 40) (h : Bool) {hv : Int} (hhv : hv = if h then 1 else -1) (hfn : FuncsIn W W.heap.size (.slice oa9 2 oc9) [[⟨[], List.replicate i pollOp, ⟨4, -1, []⟩⟩], hndB])
    (ha : W.heap[ga]? = some (.cells #[.int .i64 0, .int .i64 0] 3 (0, 0))) (hgi : W.heap[gi]? = some (.cells #[.int .u16 11, .int .u16 12, .int .u16 13, .int .u16 14, .int .u16 15] 39 (0, 0))) (hq : U8sIn W W.heap.size (.slice a q.length cap) q) (hS : ramStr (ramOf ⟨#[]⟩) = S) :
    Calls Try.prog 23 #[.agg #[.slice oa9 2 oc9, .slice (some ⟨ga, 0, none⟩) 2 2, .int .i64 0, .int .i64 hv, .slice none 0 0, .slice none 0 0], .int .i64 0, .slice none 0 0, .string ⟨#[]⟩, .agg #[.slice (some ⟨gi, 0, none⟩) 5 5, .slice a q.length cap], .int .i64 1000] W
      (fun e w' => ∃ oa oc, e = .returned (.agg #[.int .u16 0, .slice oa (hits q h i) oc, .int .i64 6, .int .u16 0, .string S, .int .i64 ((min (hits q h i) 5 : Nat) : Int), .int .i64 ((min i q.length : Nat) : Int)]) ∧ EventsIn w' w'.heap.size (.slice oa (hits q h i) oc) (evs (hits q h i)) ∧ Below W.heap.size W w') := by
  subst hhv
  have hp : ProgIn W W.heap.size ⟨.slice oa9 2 oc9, .slice (some ⟨ga, 0, none⟩) 2 2, .slice none 0 0, .slice none 0 0⟩ (pollP i h) :=
    ⟨hfn, ints_lit (xs := [0, 0]) ha (lt_of_block ha) (by intro x hx; simp only [List.mem_cons, List.not_mem_nil, or_false] at hx; rcases hx with rfl | rfl <;> exact i64_c _ rfl) (by decide), Elems.nil, Elems.nil, i64_c _ rfl, by show I64 (if h then 1 else -1); cases h <;> exact i64_c _ rfl⟩
  have := (eval_any hp (poll_sized hi h) 0 i64_zero Elems.nil ⟨#[]⟩ (by decide) (u16s_lit (xs := [11, 12, 13, 14, 15]) hgi (lt_of_block hgi) (by decide) (by decide)) hq 1000 ⟨by decide, by decide⟩ (by decide)).mono (fun e w' h => h.open)
  rw [show evalF ⟨pollP i h, [11, 12, 13, 14, 15], q⟩ 0 [] ⟨#[]⟩ 1000 = pollRun i h q from poll_eval hi h q] at this
  have hl : (pollRun i h q).out.length = hits q h i := by show (evs _).length = _; unfold evs; simp
  refine this.mono ?_
  rintro e w' ⟨oa, oc, he, ho, hb⟩
  have e0 : (pollRun i h q).ram = ramOf ⟨#[]⟩ := by dsimp only [pollRun]
  have e1 : ramStr (pollRun i h q).ram = S := by rw [e0, hS]
  rw [e1] at he
  rw [hl] at he ho
  exact ⟨oa, oc, he, ho, hb⟩
/-- The program is built: what the world behind is. -/
def PollW (W9 : World) (c1 : Nat) (oa9 : Option Addr) (oc9 ba : Nat) (h : Bool) (W : World) : Prop :=
  (Below c1 W9 W ∧ (∀ k, k < W9.heap.size → k ≠ c1 → W.heap[k]? = W9.heap[k]?) ∧ W9.heap.size < W.heap.size) ∧ W.heap[W9.heap.size]? = some (.cells #[.int .i64 0, .int .i64 0] 3 (0, 0)) ∧ W.heap[c1]? = some (.cells #[.slice oa9 2 oc9, .slice (some ⟨W9.heap.size, 0, none⟩) 2 2, .int .i64 0, .int .i64 (if h then 1 else -1), .slice none 0 0, .slice none 0 0] 29 (0, 0))
theorem pollW_t {W9 : World} {c1 oc9 ba : Nat} {oa9 : Option Addr} (hz : W9.heap[c1]? = some (.cells #[.slice oa9 2 oc9, .slice (some ⟨ba, 0, none⟩) 1 1, .int .i64 0, .int .i64 (-1), .slice none 0 0, .slice none 0 0] 29 (0, 0))) : PollW W9 c1 oa9 oc9 ba true (((W9.setCell ⟨c1, 1, none⟩ (.slice (some ⟨W9.heap.size, 0, none⟩) 2 2)).setCell ⟨c1, 3, none⟩ (.int .i64 1)).alloc (.cells #[.int .i64 0, .int .i64 0] 3)) := by
  have hc := lt_of_block hz
  exact ⟨⟨(((Below.refl c1 W9).setCell (Nat.le_refl _) _).setCell (Nat.le_refl _) _).alloc (by simp; omega) _, fun k hk hne => (Below.heap_alloc _ _ k (by simp; omega)).trans ((Below.heap_setCell _ ⟨c1, 3, none⟩ _ k hne).trans (Below.heap_setCell _ ⟨c1, 1, none⟩ _ k hne)), by simp⟩, new_at (by simp), alloc_blk (heap_setCell_self (heap_setCell_self hz _) _)⟩
theorem pollW_f {W9 : World} {c1 oc9 ba : Nat} {oa9 : Option Addr} (hz : W9.heap[c1]? = some (.cells #[.slice oa9 2 oc9, .slice (some ⟨ba, 0, none⟩) 1 1, .int .i64 0, .int .i64 (-1), .slice none 0 0, .slice none 0 0] 29 (0, 0))) : PollW W9 c1 oa9 oc9 ba false ((W9.setCell ⟨c1, 1, none⟩ (.slice (some ⟨W9.heap.size, 0, none⟩) 2 2)).alloc (.cells #[.int .i64 0, .int .i64 0] 3)) := by
  have hc := lt_of_block hz
  exact ⟨⟨((Below.refl c1 W9).setCell (Nat.le_refl _) _).alloc (by simp; omega) _, fun k hk hne => (Below.heap_alloc _ _ k (by simp; omega)).trans (Below.heap_setCell _ ⟨c1, 1, none⟩ _ k hne), by simp⟩, new_at (by simp), alloc_blk (heap_setCell_self hz _)⟩
set_option maxHeartbeats 4000000 in
set_option maxRecDepth 100000 in
theorem law_polls (w : World) (iv : Value) (irq : List Nat) (o : Nat) (h : Bool) (hin : U8sIn w w.heap.size iv irq) (ho : o < 256) :
    Calls Try.prog 14 #[iv, .int .u8 (o : Int), .bool h] w fun e w' => e = .returned (.bool true) ∧ Below w.heap.size w w' := by
  obtain ⟨S, hS⟩ : ∃ S, ramStr (ramOf ⟨#[]⟩) = S := ⟨_, rfl⟩
  have HS := Lib.hid hS
  clear hS
  obtain ⟨k, hk⟩ : ∃ k, o % 40 = k := ⟨_, rfl⟩
  have hkI : (o : Int) % 40 = (k : Int) := by omega
  have hk40 : k < 40 := by omega
  have HK40 := Lib.hid hk40
  clear hk
  obtain ⟨a, cap, rfl, hac, ham, hel⟩ := hin
  obtain ⟨mm, hmm⟩ : ∃ mm : Nat, (mm : Int) = if (30 : Int) < (irq.length : Int) then 30 else (irq.length : Int) := ⟨min irq.length 30, by split <;> omega⟩
  have hmin : ∀ (ts : Array TypeId) (t : TypeId) (W : World), (Builtin.min_ ts t #[.int .i64 (irq.length : Int), .int .i64 30]).run Try.prog W = .ok (.int .i64 (mm : Int)) W := fun ts t W => by rw [hmm]; exact run_min_int2 ..
  have hmm1 : mm ≤ 30 ∧ mm ≤ irq.length := by split at hmm <;> omega
  obtain ⟨q, hq⟩ : ∃ q, irq.take 30 = q := ⟨_, rfl⟩
  have hql : q.length = mm := by rw [← hq, List.length_take]; split at hmm <;> omega
  have hinq : U8sIn w w.heap.size (.slice a q.length cap) q := ⟨a, cap, rfl, by omega, ham, fun k x hk => hel k x (by rw [← hq, List.getElem?_take] at hk; split at hk; exact hk; cases hk)⟩
  have HQ := Lib.hid (And.intro hinq hql)
  have hmmI : (mm : Int) ≤ cap := by omega
  clear hel hmm hq hinq hql
  go_enter Try.func14, Try.ntmps14
  go_upto_region 2 with (go_at_call 17; go_must (refine (sanity_any _).mono ?_; rintro e w0 ⟨rfl, hb0⟩))
  have HB0 := Lib.hid hb0
  clear hb0
  go_upto_region 5 with fail
  try simp only [hkI]
  clear hkI
  go_wp2
  go_loopw [9, 10] (fun ov jv wx => ∃ (i : Nat) (oa : Option Addr) (oc : Nat), i ≤ k ∧ ov = .slice oa i oc ∧ jv = .int .i64 (i : Int) ∧ Hid (PollMem w0 wx (.slice oa i oc) i)) (fun _ jv _ => k - (intOf jv).toNat)
  case atStart => exact ⟨0, none, 0, Nat.zero_le _, rfl, rfl, Lib.hid ⟨World.ownsRow_nil _ _ _ _, Below.refl _ _⟩⟩
  case round =>
    obtain ⟨i, oa, oc, hi, rfl, rfl, HM⟩ := hrel
    by_cases hlt : i < k
    · have hltI : (i : Int) < k := by omega
      have HLT := Lib.hid hlt
      clear hlt
      obtain ⟨ii, hii, hzi0, hzi1, hzi2⟩ := info_parts Try.info_irop
      have hrow := HM.out.1.alloc (.cells #[.int .i64 27, .int .i64 (-1), .int .i64 0, .int .i64 0, .int .u16 0, .slice none 0 0] 77)
      have hsrc : SrcAt (wr.alloc (.cells #[.int .i64 27, .int .i64 (-1), .int .i64 0, .int .i64 0, .int .u16 0, .slice none 0 0] 77)) 6 (.slice (some ⟨wr.heap.size, 0, none⟩) 1 1) 1 (opCells pollC) := SrcAt.cells (new_at rfl) rfl (by simp [opCells, pollC, Value.oneCell'])
      have hbw := HM.out.2.alloc HM.out.2.size (.cells #[.int .i64 27, .int .i64 (-1), .int .i64 0, .int .i64 0, .int .u16 0, .slice none 0 0] 77)
      have HR := Lib.hid (And.intro hrow (And.intro hsrc hbw))
      clear hrow hsrc hbw
      go_wp2_with (at_builtin; go_must (refine wpList_append_src _ rfl (.tmp 33) (.tmp 35) 44 rfl w0.heap.size 77 ii (.agg #[.int .i64 0, .int .i64 0, .int .i64 0, .int .i64 0, .int .u16 0, .slice none 0 0]) 6 64 Try.underlying44 hii hzi0 hzi1 hzi2 rfl (by decide) (.slice oa i oc) i ((List.replicate i pollC).flatMap opCells) rfl HR.out.1 _ 1 (opCells pollC) rfl HR.out.2.1 (by have := HK40.out; unfold maxLen; omega) (by have := HK40.out; omega) HR.out.2.2.size ?_; intro v9 w9 hown hgrow hat))
      obtain ⟨oa9, oc9, rfl⟩ := ownsRow_form hown
      go_roundw
      case rel =>
        refine ⟨i + 1, oa9, oc9, HLT.out, rfl, by go_num, Lib.hid ⟨?_, grown_below HR.out.2.2 hgrow HR.out.2.2.size (own_from HR.out.1)⟩⟩
        rw [List.replicate_succ', List.flatMap_append]
        exact hown
      case measure => have := HLT.out; simp [intOf]; omega
    · obtain rfl : i = k := by omega
      have hltI : ¬ (i : Int) < i := by omega
      have hpo : OpsIn wr wr.heap.size (.slice oa i oc) (List.replicate i pollOp) := by
        have := ops_own (l := List.replicate i pollC) (by rw [List.length_replicate]; exact HM.out.1) (fun q hq => by rw [List.eq_of_mem_replicate hq]; exact ⟨⟨i64_c _ rfl, i64_c _ rfl, i64_c _ rfl, i64_c _ rfl, by decide⟩, Elems.nil⟩)
        rwa [List.map_replicate] at this
      have hsm := (small_own (tk := 4) (ta := -1) ⟨i64_c _ rfl, i64_c _ rfl⟩ Elems.nil hpo)
      have HSM := Lib.hid hsm
      clear hlt hpo hsm
      go_upto_region 10 with (go_at_call 32; go_must (refine HSM.out.mono ?_; rintro e w1 ⟨bb, bf, ba, rfl, hbf, hbg, hbl, hb1⟩))
      obtain ⟨ii, hii, hzi0, hzi1, hzi2⟩ := info_parts Try.info_irfunc
      have hPB := HM.out.2
      have hx : (w1.alloc (.cells #[.slice (some ⟨bf, 0, none⟩) 1 1, .slice (some ⟨ba, 0, none⟩) 1 1, .int .i64 0, .int .i64 (-1), .slice none 0 0, .slice none 0 0] 29)).heap[w1.heap.size]? = some (.cells #[.slice (some ⟨bf, 0, none⟩) 1 1, .slice (some ⟨ba, 0, none⟩) 1 1, .int .i64 0, .int .i64 (-1), .slice none 0 0, .slice none 0 0] 29 (0, 0)) := new_at rfl
      have hba := (Below.refl w1.heap.size w1).alloc (Nat.le_refl _) (.cells #[.slice (some ⟨bf, 0, none⟩) 1 1, .slice (some ⟨ba, 0, none⟩) 1 1, .int .i64 0, .int .i64 (-1), .slice none 0 0, .slice none 0 0] 29)
      have hbfx := alloc_blk (o := .cells #[.slice (some ⟨bf, 0, none⟩) 1 1, .slice (some ⟨ba, 0, none⟩) 1 1, .int .i64 0, .int .i64 (-1), .slice none 0 0, .slice none 0 0] 29) hbf
      have hbl2 := hbl.below blkR_stable (hba.mono (Nat.le_of_lt (lt_of_block hbf)))
      have hB1 : Below w0.heap.size w0 (w1.alloc (.cells #[.slice (some ⟨bf, 0, none⟩) 1 1, .slice (some ⟨ba, 0, none⟩) 1 1, .int .i64 0, .int .i64 (-1), .slice none 0 0, .slice none 0 0] 29)) := hPB.trans ((hb1.trans (hba.mono hb1.size)).mono hPB.size)
      have hg1 := hPB.size
      generalize hW : w1.alloc (.cells #[.slice (some ⟨bf, 0, none⟩) 1 1, .slice (some ⟨ba, 0, none⟩) 1 1, .int .i64 0, .int .i64 (-1), .slice none 0 0, .slice none 0 0] 29) = X1 at *
      have hcs : w1.heap.size < X1.heap.size ∧ bf < w1.heap.size := ⟨lt_of_block hx, lt_of_block hbf⟩
      generalize hc : w1.heap.size = c1 at *
      have hrow : (((X1.alloc (.cells #[.int .i64 24, .int .i64 0, .int .i64 0, .int .i64 0, .int .u16 1, .slice none 0 0, .int .i64 25, .int .i64 (-1), .int .i64 0, .int .i64 0, .int .u16 2, .slice none 0 0] 77)).alloc (.cells #[.slice none 0 0, .slice (some ⟨X1.heap.size, 0, none⟩) 2 2, .int .i64 4, .int .i64 0, .slice none 0 0] 49)).alloc (.cells #[.slice (some ⟨X1.heap.size + 1, 0, none⟩) 1 1] 43)).ownsRow w0.heap.size 43 1 (.slice (some ⟨bf, 0, none⟩) 1 1) 1 [.slice (some ⟨bb, 0, none⟩) 1 1] := ⟨rfl, .inr ⟨bf, 1, _, rfl, by omega, alloc_blk (alloc_blk (alloc_blk hbfx)), Nat.le_refl _, by decide, rfl, rfl⟩⟩
      have hsrc : SrcAt (((X1.alloc (.cells #[.int .i64 24, .int .i64 0, .int .i64 0, .int .i64 0, .int .u16 1, .slice none 0 0, .int .i64 25, .int .i64 (-1), .int .i64 0, .int .i64 0, .int .u16 2, .slice none 0 0] 77)).alloc (.cells #[.slice none 0 0, .slice (some ⟨X1.heap.size, 0, none⟩) 2 2, .int .i64 4, .int .i64 0, .slice none 0 0] 49)).alloc (.cells #[.slice (some ⟨X1.heap.size + 1, 0, none⟩) 1 1] 43)) 1 (.slice (some ⟨X1.heap.size + 1 + 1, 0, none⟩) 1 1) 1 [.slice (some ⟨X1.heap.size + 1, 0, none⟩) 1 1] := SrcAt.cells (new_at (by simp)) rfl (by simp [Value.oneCell'])
      have y1 : (((X1.alloc (.cells #[.int .i64 24, .int .i64 0, .int .i64 0, .int .i64 0, .int .u16 1, .slice none 0 0, .int .i64 25, .int .i64 (-1), .int .i64 0, .int .i64 0, .int .u16 2, .slice none 0 0] 77)).alloc (.cells #[.slice none 0 0, .slice (some ⟨X1.heap.size, 0, none⟩) 2 2, .int .i64 4, .int .i64 0, .slice none 0 0] 49)).alloc (.cells #[.slice (some ⟨X1.heap.size + 1, 0, none⟩) 1 1] 43)).heap[X1.heap.size]? = some (.cells #[.int .i64 24, .int .i64 0, .int .i64 0, .int .i64 0, .int .u16 1, .slice none 0 0, .int .i64 25, .int .i64 (-1), .int .i64 0, .int .i64 0, .int .u16 2, .slice none 0 0] 77 (0, 0)) := alloc_blk (alloc_blk (new_at rfl))
      have y2 : (((X1.alloc (.cells #[.int .i64 24, .int .i64 0, .int .i64 0, .int .i64 0, .int .u16 1, .slice none 0 0, .int .i64 25, .int .i64 (-1), .int .i64 0, .int .i64 0, .int .u16 2, .slice none 0 0] 77)).alloc (.cells #[.slice none 0 0, .slice (some ⟨X1.heap.size, 0, none⟩) 2 2, .int .i64 4, .int .i64 0, .slice none 0 0] 49)).alloc (.cells #[.slice (some ⟨X1.heap.size + 1, 0, none⟩) 1 1] 43)).heap[X1.heap.size + 1]? = some (.cells #[.slice none 0 0, .slice (some ⟨X1.heap.size, 0, none⟩) 2 2, .int .i64 4, .int .i64 0, .slice none 0 0] 49 (0, 0)) := alloc_blk (new_at (by simp))
      have yx := alloc_blk (o := .cells #[.slice (some ⟨X1.heap.size + 1, 0, none⟩) 1 1] 43) (alloc_blk (o := .cells #[.slice none 0 0, .slice (some ⟨X1.heap.size, 0, none⟩) 2 2, .int .i64 4, .int .i64 0, .slice none 0 0] 49) (alloc_blk (o := .cells #[.int .i64 24, .int .i64 0, .int .i64 0, .int .i64 0, .int .u16 1, .slice none 0 0, .int .i64 25, .int .i64 (-1), .int .i64 0, .int .i64 0, .int .u16 2, .slice none 0 0] 77) hx))
      have hYB : Below X1.heap.size X1 (((X1.alloc (.cells #[.int .i64 24, .int .i64 0, .int .i64 0, .int .i64 0, .int .u16 1, .slice none 0 0, .int .i64 25, .int .i64 (-1), .int .i64 0, .int .i64 0, .int .u16 2, .slice none 0 0] 77)).alloc (.cells #[.slice none 0 0, .slice (some ⟨X1.heap.size, 0, none⟩) 2 2, .int .i64 4, .int .i64 0, .slice none 0 0] 49)).alloc (.cells #[.slice (some ⟨X1.heap.size + 1, 0, none⟩) 1 1] 43)) := (((Below.refl _ _).alloc (Nat.le_refl _) _).alloc (by simp) _).alloc (by simp; omega) _
      have HR := Lib.hid (And.intro hrow (And.intro hsrc (And.intro y1 (And.intro y2 (And.intro yx (And.intro hYB (And.intro hB1 (And.intro hbl2 hcs))))))))
      have cx : X1.cell? ⟨c1, 0, none⟩ = some (.slice (some ⟨bf, 0, none⟩) 1 1) := cell_of_blk hx rfl
      clear hx hba hbf hbl hbfx hbl2 hrow hsrc y1 y2 yx hYB hB1 hb1 hPB hg1 hW hc HSM
      go_upto_region 11 with (at_builtin; go_must (refine wpList_append_src _ rfl (.tmp 41) (.tmp 49) 25 rfl w0.heap.size 43 ii (.agg #[.slice none 0 0]) 1 24 Try.underlying25 hii hzi0 hzi1 hzi2 rfl (by decide) (.slice (some ⟨bf, 0, none⟩) 1 1) 1 [.slice (some ⟨bb, 0, none⟩) 1 1] rfl HR.out.1 _ 1 [.slice (some ⟨X1.heap.size + 1, 0, none⟩) 1 1] rfl HR.out.2.1 (by unfold maxLen; omega) (by omega) (by have := HR.out.2.2.2.2.2.2.1.size; simp; omega) ?_; intro v9 w9 hown hgrow hat; obtain ⟨oa9, oc9, rfl⟩ := ownsRow_form hown; have hz := grown_blk hgrow HR.out.2.2.2.2.1 (by have := HR.out.2.2.2.2.2.2.2.2; simp [Value.ownBlock]; omega); have hz0 := cell_of_blk (i := 0) hz rfl; have hzf : w9.frozen? ⟨c1, 0, none⟩ = false := free_of_blk hz))
      obtain ⟨hfn, hz9, hB9⟩ := poll_mem (HR.out.2.2.2.2.2.1) HR.out.2.2.1 HR.out.2.2.2.1 HR.out.2.2.2.2.1 HR.out.2.2.2.2.2.2.2.1 HR.out.2.2.2.2.2.2.2.2 hgrow hown
      have hB10 : Below w.heap.size w (w9.setCell ⟨c1, 0, none⟩ (.slice oa9 2 oc9)) := HB0.out.trans ((HR.out.2.2.2.2.2.2.1.trans (hB9 _ (by have := HM.out.2.size; omega))).mono HB0.out.size)
      have hfn2 : ∀ W : World, (w9.setCell ⟨c1, 0, none⟩ (.slice oa9 2 oc9)).heap.size ≤ W.heap.size → (W.os = (w9.setCell ⟨c1, 0, none⟩ (.slice oa9 2 oc9)).os ∧ W.tape = (w9.setCell ⟨c1, 0, none⟩ (.slice oa9 2 oc9)).tape ∧ W.output = (w9.setCell ⟨c1, 0, none⟩ (.slice oa9 2 oc9)).output) → (∀ k, k < (w9.setCell ⟨c1, 0, none⟩ (.slice oa9 2 oc9)).heap.size → k ≠ c1 → W.heap[k]? = (w9.setCell ⟨c1, 0, none⟩ (.slice oa9 2 oc9)).heap[k]?) → FuncsIn W W.heap.size (.slice oa9 2 oc9) [[⟨[], List.replicate i pollOp, ⟨4, -1, []⟩⟩], hndB] := fun W h1 h2 h3 => hfn W (by simpa using h1) h2 (fun k hk hne => (h3 k (by simpa using hk) hne).trans (Below.heap_setCell w9 ⟨c1, 0, none⟩ _ k hne))
      clear hfn
      generalize hW : w9.setCell ⟨c1, 0, none⟩ (.slice oa9 2 oc9) = W9 at *
      have HZ := Lib.hid (And.intro hfn2 (And.intro hz9 (And.intro hB10 HR.out.2.2.2.2.2.2.2.2)))
      have hc1 := lt_of_block hz9
      have k0 : W9.cell? ⟨c1, 0, none⟩ = some (.slice oa9 2 oc9) := cell_of_blk (i := 0) hz9 rfl
      have k1 : W9.cell? ⟨c1, 1, none⟩ = some (.slice (some ⟨ba, 0, none⟩) 1 1) := cell_of_blk (i := 1) hz9 rfl
      have k2 : W9.cell? ⟨c1, 2, none⟩ = some (.int .i64 0) := cell_of_blk (i := 2) hz9 rfl
      have k3 : W9.cell? ⟨c1, 3, none⟩ = some (.int .i64 (-1)) := cell_of_blk (i := 3) hz9 rfl
      have k4 : W9.cell? ⟨c1, 4, none⟩ = some (.slice none 0 0) := cell_of_blk (i := 4) hz9 rfl
      have k5 : W9.cell? ⟨c1, 5, none⟩ = some (.slice none 0 0) := cell_of_blk (i := 5) hz9 rfl
      have kf1 : W9.frozen? ⟨c1, 1, none⟩ = false := free_of_blk hz9
      have kf3 : W9.frozen? ⟨c1, 3, none⟩ = false := free_of_blk hz9
      have hlen : (List.replicate i pollOp).length = i := List.length_replicate
      clear hfn2 hz9 hB10 hB9 hW hown hgrow hat hz hz0 hzf HR hii hzi0 hzi1 hzi2 cx
      have hzz := HZ.out.2.1
      have hpt := Lib.hid (pollW_t hzz)
      have hpf := Lib.hid (pollW_f hzz)
      clear hzz
      go_upto_if 54 with fail
      go_cut [] (fun wx => Hid (PollW W9 c1 oa9 oc9 ba h wx))
      case first =>
        cases h
        · go_wp2
          go_meet
          exact Lib.hid hpf.out
        · go_wp2
          go_meet
          exact Lib.hid hpt.out
      case rest =>
        clear hpt hpf k0 k1 k2 k3 k4 k5 kf1 kf3
        obtain ⟨⟨p1, p2, p3⟩, p4, p5⟩ := hcut.out
        have hXB : Below c1 W9 (wc.alloc (.cells #[.int .u16 11, .int .u16 12, .int .u16 13, .int .u16 14, .int .u16 15] 39)) := p1.alloc (by omega) _
        have hXK : ∀ k, k < W9.heap.size → k ≠ c1 → (wc.alloc (.cells #[.int .u16 11, .int .u16 12, .int .u16 13, .int .u16 14, .int .u16 15] 39)).heap[k]? = W9.heap[k]? := fun k hk hne => (Below.heap_alloc _ _ k (by omega)).trans (p2 k hk hne)
        have hX4 := alloc_blk (o := .cells #[.int .u16 11, .int .u16 12, .int .u16 13, .int .u16 14, .int .u16 15] 39) p4
        have hX5 := alloc_blk (o := .cells #[.int .u16 11, .int .u16 12, .int .u16 13, .int .u16 14, .int .u16 15] 39) p5
        have hX6 : (wc.alloc (.cells #[.int .u16 11, .int .u16 12, .int .u16 13, .int .u16 14, .int .u16 15] 39)).heap[wc.heap.size]? = some (.cells #[.int .u16 11, .int .u16 12, .int .u16 13, .int .u16 14, .int .u16 15] 39 (0, 0)) := new_at rfl
        have hXs : (wc.alloc (.cells #[.int .u16 11, .int .u16 12, .int .u16 13, .int .u16 14, .int .u16 15] 39)).heap.size = wc.heap.size + 1 := by simp
        obtain ⟨hv, hhv⟩ : ∃ hv : Int, hv = if h then 1 else -1 := ⟨_, rfl⟩
        rw [← hhv] at hX5
        clear hcut p1 p2 p4 p5
        go_upto_region 15 with fail
        generalize hWX : wc.alloc (.cells #[.int .u16 11, .int .u16 12, .int .u16 13, .int .u16 14, .int .u16 15] 39) = WX at *
        generalize hGI : wc.heap.size = gi at *
        have hbw : Below w.heap.size w WX := HZ.out.2.2.1.trans (hXB.mono (by have := HZ.out.2.2.1.size; have := HB0.out.size; have := HM.out.2.size; omega))
        have hq1 : U8sIn WX WX.heap.size (.slice a mm cap) q := by
          have := HQ.out.1
          rw [HQ.out.2] at this
          exact (this.below u8R_stable hbw).mono u8R_stable hbw.size
        have hfx : FuncsIn WX WX.heap.size (.slice oa9 2 oc9) [[⟨[], List.replicate i pollOp, ⟨4, -1, []⟩⟩], hndB] := HZ.out.1 WX (by omega) ⟨hXB.os, hXB.tape, hXB.output⟩ hXK
        have hev := poll_call HK40.out h hhv hfx hX4 hX6 (by rw [HQ.out.2]; exact hq1) HS.out
        rw [HQ.out.2] at hev
        obtain ⟨n, hn⟩ : ∃ n, hits q h i = n := ⟨_, rfl⟩
        rw [hn] at hev
        have k0 : WX.cell? ⟨c1, 0, none⟩ = some (.slice oa9 2 oc9) := cell_of_blk (i := 0) hX5 rfl
        have k1 : WX.cell? ⟨c1, 1, none⟩ = some (.slice (some ⟨W9.heap.size, 0, none⟩) 2 2) := cell_of_blk (i := 1) hX5 rfl
        have k2 : WX.cell? ⟨c1, 2, none⟩ = some (.int .i64 0) := cell_of_blk (i := 2) hX5 rfl
        have k3 : WX.cell? ⟨c1, 3, none⟩ = some (.int .i64 hv) := cell_of_blk (i := 3) hX5 rfl
        have k4 : WX.cell? ⟨c1, 4, none⟩ = some (.slice none 0 0) := cell_of_blk (i := 4) hX5 rfl
        have k5 : WX.cell? ⟨c1, 5, none⟩ = some (.slice none 0 0) := cell_of_blk (i := 5) hX5 rfl
        have HE := Lib.hid (And.intro hev (And.intro hbw (And.intro hq1 (And.intro hX6 (And.intro hn hhv)))))
        clear hev hq1 hfx hX4 hX5 hX6 hXB hXK hbw hn hhv hXs hWX hGI p3
        go_upto_region 16 with (go_at_call 23; go_must (refine HE.out.1.mono ?_; rintro e w2 ⟨oa2, oc2, rfl, ho2, hb2⟩))
        clear k0 k1 k2 k3 k4 k5
        have hc : (w2.alloc (.cells #[.int .u16 0, .slice oa2 n oc2, .int .i64 6, .int .u16 0, .string S, .int .i64 ((min n 5 : Nat) : Int), .int .i64 ((min i mm : Nat) : Int)] 57)).heap[w2.heap.size]? = some (.cells #[.int .u16 0, .slice oa2 n oc2, .int .i64 6, .int .u16 0, .string S, .int .i64 ((min n 5 : Nat) : Int), .int .i64 ((min i mm : Nat) : Int)] 57 (0, 0)) := new_at rfl
        have hbr := (Below.refl w2.heap.size w2).alloc (Nat.le_refl _) (.cells #[.int .u16 0, .slice oa2 n oc2, .int .i64 6, .int .u16 0, .string S, .int .i64 ((min n 5 : Nat) : Int), .int .i64 ((min i mm : Nat) : Int)] 57)
        have ho3 := (ho2.below evR_stable hbr).mono evR_stable hbr.size
        have hb3 : Below WX.heap.size WX (w2.alloc (.cells #[.int .u16 0, .slice oa2 n oc2, .int .i64 6, .int .u16 0, .string S, .int .i64 ((min n 5 : Nat) : Int), .int .i64 ((min i mm : Nat) : Int)] 57)) := hb2.trans (hbr.mono hb2.size)
        have hg6 := below_blk hb3 HE.out.2.2.2.1 (lt_of_block HE.out.2.2.2.1)
        have hw3 : Below w.heap.size w (w2.alloc (.cells #[.int .u16 0, .slice oa2 n oc2, .int .i64 6, .int .u16 0, .string S, .int .i64 ((min n 5 : Nat) : Int), .int .i64 ((min i mm : Nat) : Int)] 57)) := HE.out.2.1.trans (hb3.mono HE.out.2.1.size)
        have hq3 := HE.out.2.2.1.below u8R_stable hb3
        generalize hWR : w2.alloc (.cells #[.int .u16 0, .slice oa2 n oc2, .int .i64 6, .int .u16 0, .string S, .int .i64 ((min n 5 : Nat) : Int), .int .i64 ((min i mm : Nat) : Int)] 57) = W3 at *
        generalize hc3 : w2.heap.size = c3 at *
        have H3 := Lib.hid (And.intro hc (And.intro ho3 (And.intro hg6 (And.intro hw3 hq3))))
        clear ho2 hb2 hc hbr ho3 hb3 hg6 hw3 hq3 hWR hc3
        go_upto_block 2 with fail
        go_cut [14] (fun cv wx => cv = .int .i64 (n : Int) ∧ wx = W3)
        case first =>
          go_wp2_with fail
          go_loopw [14, 15] (fun cv jv wx => ∃ j : Nat, wx = W3 ∧ j ≤ mm ∧ j ≤ i ∧ (h = false → j = 0) ∧ cv = .int .i64 ((hits q h j : Nat) : Int) ∧ jv = .int .i64 (j : Int)) (fun _ jv _ => mm - (intOf jv).toNat)
          case atStart => exact ⟨0, rfl, Nat.zero_le _, Nat.zero_le _, fun _ => rfl, by rw [show hits q h 0 = 0 by unfold hits; cases h <;> rfl]; rfl, rfl⟩
          case round =>
            obtain ⟨j, rfl, hj1, hj2, hj0, rfl, rfl⟩ := hrel
            by_cases c1' : j < mm
            · have e1 : decide ((j : Int) < (mm : Int)) = true := decide_eq_true (by omega)
              have e1' : decide (j < mm) = true := decide_eq_true c1'
              by_cases c2 : j < i
              · have e2 : decide ((j : Int) < (i : Int)) = true := decide_eq_true (by omega)
                have e2' : decide (j < i) = true := decide_eq_true c2
                cases h with
                | true =>
                  obtain ⟨x, hx⟩ : ∃ x, q[j]? = some x := ⟨_, List.getElem?_eq_getElem (by rw [HQ.out.2]; exact c1')⟩
                  obtain ⟨gb, go, hga, hgl, hgc, hgx⟩ := H3.out.2.2.2.2.get hx
                  rw [Nat.mul_one] at hgc
                  have hsucc := hits_succ hx
                  have HSU := Lib.hid hsucc
                  have hjI : (j : Int) < (mm : Int) := by omega
                  have hhl := hits_le q true j
                  have hnI : ((hits q true j : Nat) : Int) + 1 ≤ 1000 := by omega
                  subst hga
                  clear hx hsucc hgl
                  by_cases hx0 : x = 0
                  · have t1 : ((x : Int) != 0) = false := by rw [bne_eq_false_iff_eq]; omega
                    go_wp2
                    go_roundw
                    case rel => exact ⟨j + 1, (by first | rfl | trivial), by omega, by omega, (fun h => by cases h), by rw [HSU.out, if_neg (by simpa using hx0)]; rfl, by go_num⟩
                    case measure => simp [intOf]; omega
                  · have t1 : ((x : Int) != 0) = true := by rw [bne_iff_ne]; omega
                    go_wp2
                    go_roundw
                    case rel => exact ⟨j + 1, (by first | rfl | trivial), by omega, by omega, (fun h => by cases h), by rw [HSU.out, if_pos hx0]; go_num, by go_num⟩
                    case measure => simp [intOf]; omega
                | false =>
                  go_wp2
                  go_meet
                  case rel => exact ⟨by rw [← HE.out.2.2.2.2.1]; rfl, rfl⟩
              · have e2 : decide ((j : Int) < (i : Int)) = false := decide_eq_false (by omega)
                have e2' : decide (j < i) = false := decide_eq_false c2
                go_wp2
                go_meet
                case rel => exact ⟨by rw [← HE.out.2.2.2.2.1, show j = i by omega], rfl⟩
            · have e1 : decide ((j : Int) < (mm : Int)) = false := decide_eq_false (by omega)
              have e1' : decide (j < mm) = false := decide_eq_false c1'
              go_wp2
              go_meet
              case rel => exact ⟨by rw [← HE.out.2.2.2.2.1, hits_end (i := j) (by rw [HQ.out.2]; omega) i hj2], rfl⟩
        case rest =>
          obtain ⟨rfl, rfl⟩ := hcut
          have m1 : ∀ (ts : Array TypeId) (t : TypeId) (W : World), (Builtin.min_ ts t #[.int .i64 (i : Int), .int .i64 (mm : Int)]).run Try.prog W = .ok (.int .i64 ((min i mm : Nat) : Int)) W := fun ts t W => by rw [show ((min i mm : Nat) : Int) = if (mm : Int) < (i : Int) then (mm : Int) else (i : Int) by split <;> omega]; exact run_min_int2 ..
          have m2 : ∀ (ts : Array TypeId) (t : TypeId) (W : World), (Builtin.min_ ts t #[.int .i64 (n : Int), .int .i64 5]).run Try.prog W = .ok (.int .i64 ((min n 5 : Nat) : Int)) W := fun ts t W => by rw [show ((min n 5 : Nat) : Int) = if (5 : Int) < (n : Int) then (5 : Int) else (n : Int) by split <;> omega]; exact run_min_int2 ..
          have r0 := cell_of_blk (i := 2) H3.out.1 rfl
          have r1 := cell_of_blk (i := 3) H3.out.1 rfl
          have r2 := cell_of_blk (i := 5) H3.out.1 rfl
          have r3 := cell_of_blk (i := 6) H3.out.1 rfl
          have r4 := cell_of_blk (i := 1) H3.out.1 rfl
          go_upto_block 4 with fail
          go_wp2_with fail
          go_loopw [113] (fun kv wx => ∃ k : Nat, k ≤ n ∧ kv = .int .i64 (k : Int) ∧ Hid (Below wc.heap.size wc wx)) (fun kv _ => n - (intOf kv).toNat)
          case atStart => exact ⟨0, Nat.zero_le _, rfl, Lib.hid (Below.refl _ _)⟩
          case round =>
            obtain ⟨k, hk, rfl, hB⟩ := hrel
            by_cases hkn : k < n
            · have hkI : (k : Int) < (n : Int) := by omega
              obtain ⟨eb, eo, hea, hel, hec1, hec2, _, _⟩ := H3.out.2.1.get (evs_get hkn)
              have d1 := cellB hB.out hel hec1
              have d2 := cellB hB.out hel hec2
              have d3 := below_blk hB.out H3.out.2.2.1 (lt_of_block H3.out.2.2.1)
              subst hea
              clear hel hec1 hec2
              have hsz := hB.out.size
              have hgl : gi < wr.heap.size := lt_of_block d3
              have hkb : (k : Int) + 1 ≤ 1000 := by have := hits_lt q h HK40.out; rw [HE.out.2.2.2.2.1] at this; omega
              by_cases h5 : k < 5
              · have t1 : (k : Int) < 5 := by omega
                have d4 : wr.cell? ⟨gi, k, none⟩ = some (.int .u16 ((11 + k : Nat) : Int)) := by
                  have : k = 0 ∨ k = 1 ∨ k = 2 ∨ k = 3 ∨ k = 4 := by omega
                  rcases this with rfl | rfl | rfl | rfl | rfl <;> exact cell_of_blk d3 rfl
                rw [if_pos h5] at d2
                obtain ⟨z, hz⟩ : ∃ z : Int, z = ((11 + k : Nat) : Int) := ⟨_, rfl⟩
                rw [← hz] at d2 d4
                clear hz d3
                go_wp2
                go_roundw
                case rel => exact ⟨k + 1, hkn, by go_num, Lib.hid ((hB.out.alloc hB.out.size _).alloc (by have := hB.out.size; simp; omega) _)⟩
                case measure => simp [intOf]; omega
              · have t1 : ¬ (k : Int) < 5 := by omega
                rw [if_neg h5] at d2
                clear d3
                go_wp2
                go_roundw
                case rel => exact ⟨k + 1, hkn, by go_num, Lib.hid ((hB.out.alloc hB.out.size _).alloc (by have := hB.out.size; simp; omega) _)⟩
                case measure => simp [intOf]; omega
            · obtain rfl : k = n := by omega
              have hkI : ¬ (k : Int) < (k : Int) := by omega
              go_wp2
              go_ret
              exact ⟨rfl, H3.out.2.2.2.1.trans (hB.out.mono H3.out.2.2.2.1.size)⟩
end Go.Proofs.Ytojclalkfhoooaa
