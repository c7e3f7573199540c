/-
  The walk of flow.Order's closure 'enter', of slices.Reverse, and of flow.Order.
-/
import Derived.Test.YtpfinkcnklkclaaValid
set_option linter.unusedVariables false
set_option linter.unusedSimpArgs false
namespace Go.Proofs.Ytpfinkcnklkclaa
open Go.RowKit

def frames (stk : List (Nat × Nat)) : List Value := stk.flatMap fun p => [encNat p.1, encNat p.2]
theorem frames_snoc (stk : List (Nat × Nat)) (u j : Nat) : frames (stk ++ [(u, j)]) = frames stk ++ [encNat u, encNat j] := by simp [frames]
theorem frames_length (stk : List (Nat × Nat)) : (frames stk).length = 2 * stk.length := by
  induction stk with
  | nil => rfl
  | cons p r ih => simp only [frames, List.flatMap_cons, List.length_append, List.length_cons, List.length_nil] at ih ⊢; omega

/-- The search's memory: variable 'seen' in block Bv over row Bs, variable 'stack' in block Bk, the slice of finished nodes as the value pv. -/
structure Dfs (w0 w : World) (B0 n Bv Bs Bk : Nat) (seen : List Bool) (stk : List (Nat × Nat)) (pv : Value) (post : List Nat) : Prop where
  hv : w.heap[Bv]? = some (.cells #[.slice (some ⟨Bs, 0, none⟩) n n] 36 (0, 0))
  hs : w.heap[Bs]? = some (.cells (seen.map encBool).toArray 4 (0, 0))
  hl : seen.length = n
  hk : ∃ sv, w.heap[Bk]? = some (.cells #[sv] 52 (0, 0)) ∧ w.ownsRow (Bk + 1) 54 2 sv stk.length (frames stk)
  lt : B0 ≤ Bs ∧ Bs < Bv ∧ Bv < Bk
  hp : w.ownsRow (Bk + 1) 3 1 pv post.length (post.map encNat)
  hb : Below B0 w0 w

theorem Dfs.drewN {w0 w : World} {B0 n Bv Bs Bk k : Nat} {seen : List Bool} {stk : List (Nat × Nat)} {pv : Value} {post : List Nat} (h : Dfs w0 w B0 n Bv Bs Bk seen stk pv post) : Dfs w0 (w.drewN k) B0 n Bv Bs Bk seen stk pv post :=
  ⟨h.hv, h.hs, h.hl, h.hk, h.lt, h.hp, below_drewN h.hb⟩

theorem Dfs.push {w0 w w2 : World} {B0 n Bv Bs Bk u : Nat} {seen : List Bool} {stk : List (Nat × Nat)} {pv pv' : Value} {post : List Nat} {o : Obj} (h : Dfs w0 w B0 n Bv Bs Bk seen stk pv post)
    (hg : (w.alloc o).grownBy w2 pv.ownBlock) (hown : w2.ownsRow (Bk + 1) 3 1 pv' (post.length + 1) (post.map encNat ++ [encNat u])) : Dfs w0 w2 B0 n Bv Bs Bk seen stk pv' (post ++ [u]) := by
  obtain ⟨hv, hs, hl, ⟨sv, hk, hst⟩, hlt, hp, hb⟩ := h
  have hB := lt_of_block hk
  refine ⟨grown_blk hg (alloc_blk hv) (ownsRow_block_ne hp hv (.inl (by omega))), grown_blk hg (alloc_blk hs) (ownsRow_block_ne hp hs (.inl (by omega))), hl,
    ⟨sv, grown_blk hg (alloc_blk hk) (ownsRow_block_ne hp hk (.inl (by omega))), (hst.alloc o).kept hg (ownsRow_apart hst hp (by decide))⟩, hlt, ?_, ?_⟩
  · simpa using hown
  · exact Below.grown (hb.alloc (by omega) o) hg (by simp; omega) (fun k hk' => by have := hp.lt k hk'; omega)

theorem Dfs.popStk {w0 w : World} {B0 n Bv Bs Bk u j gk cp : Nat} {seen : List Bool} {st : List (Nat × Nat)} {pv : Value} {post : List Nat} (h : Dfs w0 w B0 n Bv Bs Bk seen (st ++ [(u, j)]) pv post)
    (hc : w.heap[Bk]? = some (.cells #[.slice (some ⟨gk, 0, none⟩) (st.length + 1) cp] 52 (0, 0))) : Dfs w0 (w.setCell ⟨Bk, 0, none⟩ (.slice (some ⟨gk, 0, none⟩) st.length cp)) B0 n Bv Bs Bk seen st pv post := by
  obtain ⟨hv, hs, hl, ⟨sv, hk, hst⟩, hlt, hp, hb⟩ := h
  obtain rfl := one_cell_inj hk hc
  simp only [List.length_append, List.length_cons, List.length_nil, Nat.zero_add, frames_snoc] at hst
  refine ⟨set_blk hv (show Bv ≠ Bk by omega), set_blk hs (show Bs ≠ Bk by omega), hl, ⟨_, one_setCell hk, ?_⟩, hlt, ownsRow_setCell_other hp (ownsRow_block_ne (b := Bk) hp hk (.inl (by omega))) _, hb.setCell (show B0 ≤ Bk by omega) _⟩
  have h1 := ownsRow_setCell_other hst (a := ⟨Bk, 0, none⟩) (ownsRow_block_ne (b := Bk) hst hk (.inl (by omega))) (.slice (some ⟨gk, 0, none⟩) st.length cp)
  obtain ⟨hlen, hh⟩ := h1
  refine ⟨by rw [frames_length]; omega, .inr ?_⟩
  rcases hh with ⟨hn, _⟩ | ⟨g', cap', cur, hv', hg', hh', hle, hcm, hcs, htake⟩
  · cases hn
  · cases hv'
    refine ⟨gk, cp, cur, rfl, hg', hh', by omega, hcm, hcs, ?_⟩
    have := congrArg (List.take (st.length * 2)) htake
    rw [List.take_take, Nat.min_eq_left (by omega), List.take_append_of_le_length (by rw [frames_length]; omega), List.take_of_length_le (l := frames st) (by rw [frames_length]; omega)] at this
    exact this

theorem Dfs.bump {w0 w : World} {B0 n Bv Bs Bk u j gk cp : Nat} {seen : List Bool} {st : List (Nat × Nat)} {pv : Value} {post : List Nat} (h : Dfs w0 w B0 n Bv Bs Bk seen (st ++ [(u, j)]) pv post)
    (hc : w.heap[Bk]? = some (.cells #[.slice (some ⟨gk, 0, none⟩) (st.length + 1) cp] 52 (0, 0))) : Dfs w0 (w.setCell ⟨gk, st.length * 2 + 1, none⟩ (encNat (j + 1))) B0 n Bv Bs Bk seen (st ++ [(u, j + 1)]) pv post := by
  obtain ⟨hv, hs, hl, ⟨sv, hk, hst⟩, hlt, hp, hb⟩ := h
  obtain rfl := one_cell_inj hk hc
  simp only [List.length_append, List.length_cons, List.length_nil, Nat.zero_add, frames_snoc] at hst
  have hgk := hst.lt gk rfl
  have hne := ownsRow_apart hp hst (by decide)
  refine ⟨set_blk hv (show Bv ≠ gk by omega), set_blk hs (show Bs ≠ gk by omega), hl, ⟨_, set_blk hk (show Bk ≠ gk by omega), ?_⟩, hlt, ownsRow_setCell_other hp ?_ _, hb.setCell (show B0 ≤ gk by omega) _⟩
  · have := (hst.stored (st.length * 2 + 1) (encNat (j + 1))).1
    simp only [List.length_append, List.length_cons, List.length_nil, Nat.zero_add, frames_snoc] at this ⊢
    have e : (frames st ++ [encNat u, encNat j]).set (st.length * 2 + 1) (encNat (j + 1)) = frames st ++ [encNat u, encNat (j + 1)] := by
      rw [List.set_append_right _ _ (by rw [frames_length]; omega), frames_length, show st.length * 2 + 1 - 2 * st.length = 1 by omega]
      rfl
    rw [e] at this
    exact this
  · rcases hne with h0 | h0
    · rw [h0]; simp
    · exact h0

theorem Try.info_frame : (Try.prog.info? 54).map (fun i => (i.zero, i.size, i.bytes)) = some (some (.agg #[.int .i64 0, .int .i64 0]), 2, 16) := by kernel_rfl
theorem Try.info_int : (Try.prog.info? 3).map (fun i => (i.zero, i.size, i.bytes)) = some (some (.int .i64 0), 1, 8) := by kernel_rfl
theorem Try.info_bool : (Try.prog.info? 4).map (fun i => (i.zero, i.size, i.bytes)) = some (some (.bool false), 1, 1) := by kernel_rfl

set_option maxHeartbeats 400000 in
theorem enter_any (w0 w : World) (B0 n Bv Bs Bk : Nat) (seen : List Bool) (stk : List (Nat × Nat)) (pv : Value) (post : List Nat) (u : Nat) (h : Dfs w0 w B0 n Bv Bs Bk seen stk pv post) (hu : u < n) (hm : stk.length ≤ 2000000) :
    Calls Try.prog 36 #[.int .i64 u, .pointer (some ⟨Bv, 0, none⟩), .pointer (some ⟨Bk, 0, none⟩)] w fun e w' => e = .returned (.tuple #[]) ∧ Dfs w0 w' B0 n Bv Bs Bk (seen.set u true) (stk ++ [(u, 0)]) pv post := by
  obtain ⟨i0, hi, hz0, hz1, hz2⟩ := info_parts Try.info_frame
  obtain ⟨hv, hs, hl, ⟨sv, hk, hown⟩, hlt, hp, hbel⟩ := h
  have cv := cell_of_one hv
  obtain ⟨b0, hb0⟩ : ∃ b0, seen[u]? = some b0 := ⟨_, List.getElem?_eq_getElem (by omega)⟩
  have cs : w.cell? ⟨Bs, u, none⟩ = some (.bool b0) := cell_of_blk hs (by simp [hb0, encBool])
  have fs : w.frozen? ⟨Bs, u, none⟩ = false := free_of_blk hs
  have HV : Hid ((w.setCell ⟨Bs, u, none⟩ (.bool true)).heap[Bv]? = _) := set_blk hv (show Bv ≠ Bs by omega)
  have hk1 : (w.setCell ⟨Bs, u, none⟩ (.bool true)).heap[Bk]? = _ := set_blk hk (show Bk ≠ Bs by omega)
  have HS : Hid ((w.setCell ⟨Bs, u, none⟩ (.bool true)).heap[Bs]? = _) := heap_setCell_self hs (.bool true)
  have ck1 := cell_of_one hk1
  have own1 : (w.setCell ⟨Bs, u, none⟩ (.bool true)).ownsRow (Bk + 1) 54 2 sv stk.length (frames stk) := ownsRow_setCell_other hown (ownsRow_block_ne (b := Bs) hown hs (.inl (by omega))) _
  have hp1 : (w.setCell ⟨Bs, u, none⟩ (.bool true)).ownsRow (Bk + 1) 3 1 pv post.length (post.map encNat) := ownsRow_setCell_other hp (ownsRow_block_ne (b := Bs) hp hs (.inl (by omega))) _
  have HB : Hid (Bk + 1 ≤ (w.setCell ⟨Bs, u, none⟩ (.bool true)).heap.size) := lt_of_block hk1
  have HBEL := Lib.hid (hbel.setCell (p := ⟨Bs, u, none⟩) (show B0 ≤ Bs by omega) (.bool true))
  have HK := Lib.hid hk1
  have HP := Lib.hid hp1
  clear hs hv hb0 hk hk1 hp hp1 hbel
  go_enter Try.func36, Try.ntmps36
  go_wp2_with (at_builtin; go_must (refine wpList_append_lies _ rfl (.tmp 7) (.tmp 10) 52 rfl (Bk + 1) 54 i0 _ 2 16 Try.underlying52 hi hz0 hz1 hz2 rfl (by decide) sv stk.length (frames stk) rfl (own1.alloc _) ⟨w.heap.size, 0, none⟩ 1 1 [.int .i64 u, .int .i64 0] rfl rfl (World.news_of_block (cs := #[.int .i64 u, .int .i64 0]) (new_at (by simp))) (by simp [Value.oneCell']) (by decide) (by unfold maxLen; omega) (by omega) (by have := HB.out; simp at this ⊢; omega) _ rfl ?_; intro g cap w1 hown1 hgrow hat hlt1; have hk2 := grown_blk hgrow (alloc_blk HK.out) (ownsRow_block_ne own1 HK.out (.inl (by omega))); have ck2 := cell_of_one hk2; have fk2 := free_of_one hk2; have HK2 := Lib.hid hk2; have HV2 := Lib.hid (grown_blk hgrow (alloc_blk HV.out) (ownsRow_block_ne own1 HV.out (.inl (by omega)))); have HS2 := Lib.hid (grown_blk hgrow (alloc_blk HS.out) (ownsRow_block_ne own1 HS.out (.inl (by omega)))); clear hk2))
  go_end0
  have hne := ownsRow_apart HP.out own1 (by decide)
  have hp2 := (HP.out.alloc (.cells #[.int .i64 u, .int .i64 0] 54)).kept hgrow hne
  have hBk := HB.out
  refine ⟨rfl, ⟨?_, ?_, by simp [hl], ⟨_, one_setCell HK2.out, ?_⟩, hlt, ?_, ?_⟩⟩
  · exact set_blk HV2.out (show Bv ≠ Bk by omega)
  · rw [set_blk HS2.out (show Bs ≠ Bk by omega)]
    congr 2
    simp [List.map_set, encBool]
  · have := ownsRow_setCell_other hown1 (a := ⟨Bk, 0, none⟩) (ownsRow_block_ne (b := Bk) hown1 HK2.out (.inl (by omega))) (.slice (some ⟨g, 0, none⟩) (stk.length + 1) cap)
    rw [frames_snoc, List.length_append]
    exact this
  · exact ownsRow_setCell_other hp2 (ownsRow_block_ne (b := Bk) hp2 HK2.out (.inl (by omega))) _
  · refine Below.setCell (Below.grown (HBEL.out.alloc (by omega) _) hgrow (by simp at hBk ⊢; omega) ?_) (show B0 ≤ Bk by omega) _
    intro k hk
    have := own1.lt k hk
    omega

end Go.Proofs.Ytpfinkcnklkclaa
