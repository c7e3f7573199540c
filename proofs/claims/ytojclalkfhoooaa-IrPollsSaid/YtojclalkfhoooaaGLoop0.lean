/-
  The walk of flow.Dominators. Two small facts about rows that a function owns.
-/
import Derived.Test.YtojclalkfhoooaaDom
import Derived.Laws.CopyOwn
set_option linter.unusedVariables false
set_option linter.unusedSimpArgs false
set_option maxRecDepth 8000
namespace Go.Proofs.Ytojclalkfhoooaa
open Go.RowKit Go.Shelf

def RetInts (w : World) (xs : List Int) (e : Ending) (w' : World) : Prop := ∃ v, e = .returned v ∧ w'.ownsRow w.heap.size 3 1 v xs.length (xs.map encInt) ∧ Below w.heap.size w w'

theorem predsL_len (g : List (List Nat)) (ord : List Nat) : (predsL g ord).length = g.length := by
  have h1 : ∀ (l : List Nat) (P : List (List Nat)) (n : Nat), (l.foldl (addEdge n) P).length = P.length := by
    intro l
    induction l with
    | nil => intros; rfl
    | cons a l ih => intro P n; rw [List.foldl_cons, ih]; simp [addEdge]
  have h2 : ∀ (l : List Nat) (P : List (List Nat)), (l.foldl (addEdges g) P).length = P.length := by
    intro l
    induction l with
    | nil => intros; rfl
    | cons a l ih => intro P; rw [List.foldl_cons, ih]; unfold addEdges; rw [h1]
  unfold predsL
  rw [h2]; simp
theorem predsL_bound {g : List (List Nat)} (hr : ∀ row ∈ g, row.length ≤ 2000000) {ord : List Nat} (ho : ord.length ≤ 2000000) : ∀ row ∈ predsL g ord, row.length ≤ 4000004000000 := by
  intro row hrow
  have := folds_len g 2000000 hr ord (List.replicate g.length []) 0 (by intro r hr; rw [(List.mem_replicate.1 hr).2]; simp) row hrow
  have h2 : ord.length * 2000000 ≤ 2000000 * 2000000 := Nat.mul_le_mul_right _ ho
  omega
theorem pass_len {preds : List (List Nat)} {f : Int → Int} : ∀ {ns : List Nat} {idom idom' : List Int} {ch ch' : Bool}, PassR preds f ns idom ch idom' ch' → idom'.length = idom.length
  | [], _, _, _, _, h => by rw [h.1]
  | n :: ns, idom, idom', ch, ch', ⟨pr, d, old, _, _, _, _, h⟩ => by
    rcases h with ⟨_, h⟩ | ⟨_, h⟩
    · exact pass_len h
    · have := pass_len h; simpa using this
theorem dom_len {preds : List (List Nat)} {f : Int → Int} {ns : List Nat} : ∀ {k : Nat} {idom idom' : List Int}, DomR preds f ns k idom idom' → idom'.length = idom.length
  | 0, _, _, h => h.elim
  | k + 1, idom, idom', ⟨i1, ch, h1, h2⟩ => by
    have e := pass_len h1
    rcases h2 with ⟨_, rfl⟩ | ⟨_, h2⟩
    · exact e
    · rw [dom_len h2, e]
theorem DomOf.len {g : List (List Nat)} {ns : List Nat} {idom : List Int} (h : DomOf g ns idom) (hg : 0 < g.length) : idom.length = g.length := by
  obtain ⟨k, h⟩ := h
  rw [dom_len h]; simp; omega

/-- What the callers want of dominators. -/
theorem dominators_of (w : World) (C bv : Nat) (g : List (List Nat)) (hv : ValidG g) (hn : g.length ≤ 2000000) (hr : ∀ row ∈ g, row.length ≤ 2000000) (ns : List Nat) (hF : IsOrder g (0 :: ns)) (idom : List Int) (hD : DomOf g ns idom)
    (hC : C ≤ w.heap.size) (hV : VRead w C bv (0 :: ns) (atF (0 :: ns) (0 :: ns).length) (predsL g (0 :: ns))) :
    Calls Try.prog 102 #[.pointer (some ⟨bv, 0, none⟩), .int .i64 (g.length : Int)] w fun e w' => ∃ b, e = .returned (.slice (some ⟨b, 0, none⟩) g.length g.length) ∧ w.heap.size ≤ b ∧ w'.heap[b]? = some (.cells (idom.map (Value.int .i64)).toArray 3 (0, 0)) ∧ Below w.heap.size w w' := by
  obtain ⟨h1, h2⟩ := hF.nodes hv
  obtain ⟨k, hD⟩ := hD
  simp only [List.length_cons] at h1
  exact dominators_any w C bv g.length (0 :: ns) _ _ hC hV hv.1 hn ns rfl (fun x hx => h2 x (by simp [hx])) (by omega) (predsL_len _ _) (predsL_bound hr (by simp; omega)) k idom hD

set_option maxHeartbeats 1600000 in
theorem flow_dominators_is (w : World) (sv : Value) (g : List (List Nat)) (B : Nat) (hB : B ≤ w.heap.size) (h : RowsOf encNat w B sv g) (hv : ValidG g) (hn : g.length ≤ 2000000) (hr : ∀ row ∈ g, row.length ≤ 2000000) (ns : List Nat) (hF : IsOrder g (0 :: ns)) (idom : List Int) (hD : DomOf g ns idom) :
    Calls Try.prog 67 #[.agg #[sv]] w (RetInts w (idom.set 0 (-1))) := by
  obtain ⟨a, cap, rfl, hcap⟩ := h.form
  have hbel : Below w.heap.size w (w.alloc (.cells #[.slice a g.length cap] 93)) := (Below.refl _ _).alloc (Nat.le_refl _) _
  have HL := Lib.hid (hD.len hv.1)
  have HV := Lib.hid hv
  have HR := Lib.hid hr
  have HF := Lib.hid hF
  have HD := Lib.hid hD
  have cg : (w.alloc (.cells #[.slice a g.length cap] 93)).cell? ⟨w.heap.size, 0, none⟩ = some (.slice a g.length cap) := cell_of_one (new_at rfl)
  have hgl := hv.1
  clear hv hr hF hD
  go_enter Try.func67, Try.ntmps67
  go_wp2_with (go_at_call 100; go_must (refine (flow_valid_nat _ _ g B (by simp; omega) (h.below (hbel.mono hB)) HV.out hn HR.out).mono ?_; rintro e w1 ⟨rfl, hb1⟩; obtain ⟨hc1, hf1⟩ := bcell hb1))
  generalize hW0 : w.alloc (.cells #[.slice a g.length cap] 93) = W0 at cg hb1 hc1 hf1 ⊢
  have HW0 := Lib.hid hW0
  have lg : w.heap.size < W0.heap.size := World.block_lt_of_cell? W0 _ cg
  have cg1 := (hc1 _ 0 lg).trans cg
  have hb01 : Below (w.heap.size + 1) W0 w1 := hb1.mono (by omega)
  clear hW0 hbel hc1 hf1 cg hb1
  go_cut [3] (fun s wx => ∃ b, s = .slice (some ⟨b, 0, none⟩) g.length g.length ∧ Hid (wx.heap[b]? = some (.cells (idom.map (Value.int .i64)).toArray 3 (0, 0)) ∧ w.heap.size ≤ b ∧ Below w.heap.size w wx))
  case first =>
    go_region_held3 (fun w' => w'.cell? ⟨w.heap.size, 0, none⟩ = some (.slice a g.length cap) ∧ Below (w.heap.size + 1) W0 w')
      (first
        | (go_split_ands; refine ⟨?_, ?_⟩ <;> assumption)
        | (go_split_ands; refine ⟨?_, below_drew1 ?_⟩ <;> assumption)
        | (go_split_ands; exact held_call ‹_› ‹_› (by assumption) (by assumption)))
      (first
        | (go_at_call 101; refine (view_any _ _ g B (held_size hB HW0 (by repeat' (first | assumption | (with_reducible refine Below.drew ?_)))) (held_rows h hB HW0 (by repeat' (first | assumption | (with_reducible refine Below.drew ?_)))) HV.out hn HR.out (0 :: ns) HF.out).mono ?_; rintro e w2 ⟨bv, rfl, hbv, hV, hb2⟩)
        | (go_at_call 102; refine (dominators_of _ _ bv g HV.out hn HR.out ns HF.out idom HD.out (Nat.le_refl _) hV).mono ?_; rintro e w3 ⟨b, rfl, hbb, hrow, hb3⟩))
    all_goals
      go_wp2_with fail
      go_meet
      have hbw : Below (w.heap.size + 1) W0 w3 := by
        repeat' (first | assumption | (with_reducible refine Below.drew ?_) | (refine Below.trans ?_ (Below.mono hb3 ?_)) | (refine Below.trans ?_ (Below.mono hb2 ?_)) | omega)
        all_goals (have := hb2.size; have := hb01.size; simp at *; omega)
      have hsz := hb2.size
      have hsz1 := hb01.size
      exact ⟨b, rfl, hrow, by simp at *; omega, held_below rfl HW0 hbw⟩
  case rest =>
    obtain ⟨b, rfl, HB⟩ := hcut
    have hl := HL.out
    have cb : ∃ x, wc.cell? ⟨b, 0, none⟩ = some (.int .i64 x) := by
      obtain ⟨x, hx⟩ : ∃ x, idom[0]? = some x := ⟨_, List.getElem?_eq_getElem (by omega)⟩
      exact ⟨x, cell_of_blk HB.out.1 (by simp [hx])⟩
    obtain ⟨x, cb⟩ := cb
    have fb : wc.frozen? ⟨b, 0, none⟩ = false := free_of_blk HB.out.1
    go_wp2_with fail
    go_ret
    refine ⟨_, rfl, ?_, HB.out.2.2.setCell (by simpa using HB.out.2.1) _⟩
    have hs := heap_setCell_self (i := 0) HB.out.1 (.int .i64 (-1))
    refine ⟨by simp, .inr ⟨b, g.length, _, by simp [hl], HB.out.2.1, hs, by simp [hl], by unfold maxLen; omega, by simp [hl], ?_⟩⟩
    simp only [List.map_set, List.length_set, hl, Nat.mul_one, List.setIfInBounds_toArray, List.toList_toArray]
    rw [List.take_of_length_le (by simp [hl])]
    rfl
end Go.Proofs.Ytojclalkfhoooaa
set_option linter.unusedVariables false
set_option linter.unusedSimpArgs false
namespace Go.Proofs.Ytojclalkfhoooaa
open Go.RowKit Go.Shelf

theorem ownsRow_below {w w' : World} {base C : Nat} {e : TypeId} {size n : Nat} {v : Value} {xs : List Value} (h : w.ownsRow base e size v n xs) (hb : Below C w w') (hC : w.heap.size ≤ C) : w'.ownsRow base e size v n xs := by
  refine ⟨h.1, ?_⟩
  rcases h.2 with h2 | ⟨g, cap, cur, rfl, hg, hh, r⟩
  · exact .inl h2
  · exact .inr ⟨g, cap, cur, rfl, hg, below_blk hb hh (by have := lt_of_block hh; omega), r⟩
theorem ownsRow_pop {w : World} {base g cap n : Nat} {e : TypeId} {xs : List Value} {x : Value} (h : w.ownsRow base e 1 (.slice (some ⟨g, 0, none⟩) (n + 1) cap) (n + 1) (xs ++ [x])) : w.ownsRow base e 1 (.slice (some ⟨g, 0, none⟩) n cap) n xs := by
  have hl := h.1
  simp only [List.length_append, List.length_singleton, Nat.mul_one] at hl
  refine ⟨by omega, .inr ?_⟩
  rcases h.2 with ⟨hv, _⟩ | ⟨g', cap', cur, hv, hg, hh, h1, h2, h3, h4⟩
  · cases hv
  · cases hv
    refine ⟨g, cap, cur, rfl, hg, hh, by omega, h2, h3, ?_⟩
    have : (cur.toList.take (n + 1)).take n = (xs ++ [x]).take n := by rw [Nat.mul_one] at h4; rw [h4]
    rw [List.take_take, Nat.min_eq_left (by omega), List.take_append_of_le_length (by omega), List.take_of_length_le (l := xs) (by omega)] at this
    rw [Nat.mul_one]; exact this

end Go.Proofs.Ytojclalkfhoooaa
