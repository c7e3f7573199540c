/-
  The walk of Loops' closure add, and what lies in memory during one round of Loops.
-/
import Derived.Test.YtpfinkcnklkclaaRed
set_option linter.unusedVariables false
set_option linter.unusedSimpArgs false
namespace Go.Proofs.Ytpfinkcnklkclaa
open Go.RowKit Go.Shelf


/-- The set and the work list hold nodes; nm: the entries of the map. -/
def WI (n nm : Nat) (f : Int → Bool) (work : List Nat) : Prop :=
  work.Nodup ∧ (∀ u ∈ work, u < n ∧ f (u : Int) = true) ∧ ∃ added : List Nat, added.Nodup ∧ (∀ u ∈ added, u < n ∧ f (u : Int) = true) ∧ nm ≤ added.length + 1

theorem nodup_le : ∀ {n : Nat} {l : List Nat}, l.Nodup → (∀ u ∈ l, u < n) → l.length ≤ n
  | 0, l, _, hl => by
    cases l with
    | nil => exact Nat.le_refl _
    | cons a l => exact absurd (hl a (by simp)) (Nat.not_lt_zero _)
  | n + 1, l, hn, hl => by
    by_cases hm : n ∈ l
    · have h1 := nodup_le (n := n) (l := l.erase n) (hn.erase n) (fun u hu => by
        have h2 := (hn.mem_erase_iff).1 hu
        have := hl u h2.2
        have := h2.1
        omega)
      rw [List.length_erase_of_mem hm] at h1
      omega
    · have := nodup_le (n := n) hn (fun u hu => by
        have := hl u hu
        have : u ≠ n := fun e => hm (e ▸ hu)
        omega)
      omega

theorem WI.le {n nm : Nat} {f : Int → Bool} {work : List Nat} (h : WI n nm f work) : work.length ≤ n ∧ nm ≤ n + 1 := by
  obtain ⟨h1, h2, added, h3, h4, h5⟩ := h
  have := nodup_le h1 (fun u hu => (h2 u hu).1)
  have := nodup_le h3 (fun u hu => (h4 u hu).1)
  omega
theorem WI.add {n nm : Nat} {f : Int → Bool} {work : List Nat} (h : WI n nm f work) {u : Nat} (hu : u < n) (hf : f (u : Int) = false) : WI n (nm + 1) (fun y => if y = (u : Int) then true else f y) (work ++ [u]) := by
  obtain ⟨h1, h2, added, h3, h4, h5⟩ := h
  have key : ∀ v : Nat, f (v : Int) = true → (if (v : Int) = (u : Int) then true else f (v : Int)) = true := fun v hv => by split <;> simp [hv]
  refine ⟨?_, ?_, added ++ [u], ?_, ?_, by simp; omega⟩
  · rw [List.nodup_append]
    refine ⟨h1, by simp, ?_⟩
    rintro a ha b hb rfl
    simp at hb; subst hb
    rw [(h2 a ha).2] at hf; cases hf
  · intro v hv
    rcases List.mem_append.1 hv with hv | hv
    · exact ⟨(h2 v hv).1, key v (h2 v hv).2⟩
    · simp at hv; subst hv; exact ⟨hu, by simp⟩
  · rw [List.nodup_append]
    refine ⟨h3, by simp, ?_⟩
    rintro a ha b hb rfl
    simp at hb; subst hb
    rw [(h4 a ha).2] at hf; cases hf
  · intro v hv
    rcases List.mem_append.1 hv with hv | hv
    · exact ⟨(h4 v hv).1, key v (h4 v hv).2⟩
    · simp at hv; subst hv; exact ⟨hu, by simp⟩
theorem WI.pop {n nm : Nat} {f : Int → Bool} {st : List Nat} {u : Nat} (h : WI n nm f (st ++ [u])) : WI n nm f st ∧ u < n := by
  obtain ⟨h1, h2, h3⟩ := h
  exact ⟨⟨(List.nodup_append.1 h1).1, fun v hv => h2 v (by simp [hv]), h3⟩, (h2 u (by simp)).1⟩

/-- One round of Loops: W0: the world at its start; s: the size of its heap. -/
structure LoopMem (W0 : World) (s t : Nat) (W : World) (nm : Nat) (f : Int → Bool) (wv : Value) (work : List Nat) (h : Nat) (bk : Bool) : Prop where
  hh : W.heap[s]? = some (.cells #[.int .i64 (h : Int)] 3 (0, 0))
  hm : MapIB W (s + 1) nm f
  hi : W.heap[t]? = some (.cells #[.map (some (s + 1))] 62 (0, 0))
  hw : W.heap[t + 1]? = some (.cells #[wv] 29 (0, 0))
  ha : W.heap[t + 2]? = some (.cells #[.func (.func 41) #[] #[.pointer (some ⟨t, 0, none⟩), .pointer (some ⟨t + 1, 0, none⟩)]] 55 (0, 0))
  hb : W.heap[t + 3]? = some (.cells #[.bool bk] 4 (0, 0))
  ho : W.ownsRow (t + 4) 3 1 wv work.length (work.map encNat)
  hbel : Below s W0 W
  lt : s + 2 ≤ t

/-- What add leaves. -/
structure AddT (s t : Nat) (wv wv' : Value) (W W' : World) : Prop where
  size : W.heap.size ≤ W'.heap.size
  blk : ∀ k, k < W.heap.size → k ≠ s + 1 → k ≠ t + 1 → wv.ownBlock ≠ some k → W'.heap[k]? = W.heap[k]?
  own : ∀ k, wv'.ownBlock = some k → wv.ownBlock = some k ∨ W.heap.size ≤ k

theorem LoopMem.map {W0 w w2 : World} {s t nm nm' : Nat} {f f' : Int → Bool} {wv : Value} {work : List Nat} {h : Nat} {bk : Bool} (hM : LoopMem W0 s t w nm f wv work h bk) (hg : w.grownBy w2 (some (s + 1))) (hm : MapIB w2 (s + 1) nm' f') : LoopMem W0 s t w2 nm' f' wv work h bk := by
  obtain ⟨hh, hm0, hi, hw, ha, hb, ho, hbel, lt⟩ := hM
  exact ⟨grown_blk hg hh (by simp <;> omega), hm, grown_blk hg hi (by simp <;> omega), grown_blk hg hw (by simp <;> omega), grown_blk hg ha (by simp <;> omega), grown_blk hg hb (by simp <;> omega),
    ho.kept hg (by rcases ho.2 with ⟨rfl, _⟩ | ⟨g, cap, cur, rfl, h1, h2, _⟩; exact .inl rfl; right; simp [Value.ownBlock] <;> omega), hbel.grown hg (by have := lt_of_block hh; omega) (by intro k e; cases e; omega), lt⟩
theorem LoopMem.alloc {W0 w : World} {s t nm : Nat} {f : Int → Bool} {wv : Value} {work : List Nat} {h : Nat} {bk : Bool} (hM : LoopMem W0 s t w nm f wv work h bk) (o : Obj) : LoopMem W0 s t (w.alloc o) nm f wv work h bk := by
  obtain ⟨hh, hm0, hi, hw, ha, hb, ho, hbel, lt⟩ := hM
  exact ⟨alloc_blk hh, hm0.same (Below.heap_alloc _ _ _ hm0.lt), alloc_blk hi, alloc_blk hw, alloc_blk ha, alloc_blk hb, ho.alloc _, hbel.alloc (by have := lt_of_block hh; omega) _, lt⟩
/-- The work list has grown, and its new head lies in its box. -/
theorem LoopMem.push {W0 w w2 : World} {s t nm : Nat} {f : Int → Bool} {wv wv' : Value} {work work' : List Nat} {h : Nat} {bk : Bool} (hM : LoopMem W0 s t w nm f wv work h bk) (hg : w.grownBy w2 wv.ownBlock)
    (ho2 : w2.ownsRow (t + 4) 3 1 wv' work'.length (work'.map encNat)) : LoopMem W0 s t (w2.setCell ⟨t + 1, 0, none⟩ wv') nm f wv' work' h bk := by
  obtain ⟨hh, hm0, hi, hw, ha, hb, ho, hbel, lt⟩ := hM
  have hr : ∀ b, b < t + 4 → wv.ownBlock ≠ some b := fun b hb e => by have := (ho.lt b e).1; omega
  have hr2 : wv'.ownBlock ≠ some (t + 1) := fun e => by have := (ho2.lt _ e).1; omega
  refine ⟨set_blk (grown_blk hg hh (hr _ (by omega))) (by simp <;> omega), hm0.same ?_, set_blk (grown_blk hg hi (hr _ (by omega))) (by simp <;> omega), one_setCell (grown_blk hg hw (hr _ (by omega))) , set_blk (grown_blk hg ha (hr _ (by omega))) (by simp <;> omega), set_blk (grown_blk hg hb (hr _ (by omega))) (by simp <;> omega),
    ownsRow_setCell_other ho2 hr2 _, (hbel.grown hg (by have := lt_of_block hh; omega) (by intro k e; have := (ho.lt k e).1; omega)).setCell (show s ≤ t + 1 by omega) _, lt⟩
  exact (Below.heap_setCell _ _ _ _ (by simp <;> omega)).trans (hg.block _ hm0.lt (fun e => hr _ (by omega) e.symm))

set_option maxHeartbeats 800000 in
theorem add_any (W0 w : World) (s t n nm : Nat) (hn : n ≤ 2000000) (f : Int → Bool) (wv : Value) (work : List Nat) (h : Nat) (bk : Bool) (hM : LoopMem W0 s t w nm f wv work h bk) (hWI : WI n nm f work) (u : Nat) (hu : u < n) :
    Calls Try.prog 41 #[.int .i64 (u : Int), .pointer (some ⟨t, 0, none⟩), .pointer (some ⟨t + 1, 0, none⟩)] w fun e w' => e = .returned (.tuple #[]) ∧ ∃ nm' wv', LoopMem W0 s t w' nm' (addF (f, work) u).1 wv' (addF (f, work) u).2 h bk ∧ WI n nm' (addF (f, work) u).1 (addF (f, work) u).2 ∧ AddT s t wv wv' w w' := by
  obtain ⟨ii, hii, hzi0, hzi1, hzi2⟩ := info_parts Try.info_int
  have c1 := cell_of_one hM.hi
  have look := hM.hm.look (x := (u : Int)) (by omega)
  have HM := Lib.hid hM
  have HWI := Lib.hid hWI
  clear hM hWI
  by_cases hf : f (u : Int) = true
  · go_enter Try.func41, Try.ntmps41
    go_wp2
    go_end0
    have e : addF (f, work) u = (f, work) := by unfold addF; rw [if_pos hf]
    rw [e]
    exact ⟨rfl, nm, wv, HM.out, HWI.out, ⟨Nat.le_refl _, fun _ _ _ _ _ => rfl, fun _ h => .inl h⟩⟩
  · have hf : f (u : Int) = false := by simpa using hf
    have hle := HWI.out.le
    obtain ⟨a0, c0, rfl⟩ := ownsRow_form HM.out.ho
    go_enter Try.func41, Try.ntmps41
    go_wp2_with (first
      | (at_mapUpdate; go_must (refine wpList_store_ib rfl (.tmp 8) (.tmp 9) (.const (.bool true)) rfl HM.out.hm (by omega) (u : Int) true rfl rfl rfl (by omega) ?_; intro w2 hm2 hg2; have hM2 := HM.out.map hg2 hm2; have c3 := cell_of_one hM2.hw; have HM2 := Lib.hid hM2; clear hM2 hm2))
      | (at_builtin; go_must (refine wpList_append_lies _ rfl (.tmp 10) (.tmp 12) 29 rfl (t + 4) 3 ii (.int .i64 0) 1 8 Try.underlying29 hii hzi0 hzi1 hzi2 rfl (by decide) _ work.length (work.map encNat) rfl (HM2.out.alloc _).ho ⟨w2.heap.size, 0, none⟩ 1 1 [.int .i64 (u : Int)] rfl rfl (World.news_of_block (cs := #[.int .i64 (u : Int)]) (new_at (by simp))) (by simp [Value.oneCell']) (by decide) (by unfold maxLen; omega) (by omega) (by have := lt_of_block HM2.out.hb; simp; omega) (w2.heap.size + 1) (by simp) ?_; intro g cap w3 hown3 hgrow hat hlt3; have c4 := cell_of_one (grown_blk hgrow (alloc_blk HM2.out.hw) (fun e => by have := (HM2.out.ho.lt _ e).1; omega)); have f4 := free_of_one (grown_blk hgrow (alloc_blk HM2.out.hw) (fun e => by have := (HM2.out.ho.lt _ e).1; omega)); have HO3 := Lib.hid hown3; clear hown3)))
    go_end0
    have e : addF (f, work) u = (fun y => if y = (u : Int) then true else f y, work ++ [u]) := by unfold addF; rw [if_neg (by simp [hf])]
    rw [e]
    refine ⟨rfl, nm + 1, _, (HM2.out.alloc _).push hgrow (by simpa [encNat] using HO3.out), HWI.out.add hu hf, ?_, ?_, ?_⟩
    · have h1 := hg2.size
      have h2 := hgrow.size
      simp at h2 ⊢
      omega
    · intro k hk h1 h3 hr
      have hs := hg2.size
      rw [Below.heap_setCell _ _ _ _ (by simpa using h3), hgrow.block k (by simp; omega) (fun e => hr e.symm), Below.heap_alloc _ _ _ (by omega)]
      exact hg2.block k hk (fun e => h1 (by simpa using e))
    · intro k hk
      simp only [Value.ownBlock, Option.some.injEq] at hk
      subst hk
      have hs := hg2.size
      rcases hat with h | h
      · exact .inl h
      · right; omega
end Go.Proofs.Ytpfinkcnklkclaa
