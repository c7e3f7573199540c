/-
  What lies in memory while flow.Loops runs; what it computes.
-/
import Derived.Test.YtpfinkcnklkclaaAdd
set_option linter.unusedVariables false
set_option linter.unusedSimpArgs false
namespace Go.Proofs.Ytpfinkcnklkclaa
open Go.RowKit Go.Shelf

/-- A map literal's entry: the run. -/
theorem insert_ib {b n : Nat} {f : Int → Bool} {w : World} (h : MapIB w b n f) (hn : n < 9000000000000000000) (kx : Int) (vv : Bool) (hkx : -9223372036854775808 ≤ kx ∧ kx ≤ 9223372036854775807) :
    ∃ w', (Instr.mapUpdate 62 (.map (some b)) (.int .i64 kx) (.bool vv)).run Try.prog w = .ok () w' ∧ MapIB w' b (n + 1) (fun y => if y = kx then vv else f y) ∧ w.grownBy w' (some b) := by
  obtain ⟨D, h, hf⟩ := h
  obtain ⟨w', hrun, r1, r2⟩ := h.update keyedInt Try.underlying62 (by unfold maxLen; omega) (keyInt hkx) (plainElem_bool Try.underlying4 vv)
  refine ⟨w', hrun, ⟨_, r1, fun y hy => ?_⟩, r2⟩
  have hkl : WideAt.IsKeyLit (.int .i64 kx) := keyedInt.key (keyInt hkx)
  by_cases e : y = kx
  · subst e; simp only [if_true]; exact Maps.atKey_put_same h.isMap hkl _ _
  · simp only [if_neg e]
    rw [Maps.atKey_put_other (by simpa using e)]
    exact hf y hy

/-- The cells of a list of loops: bvs: the bodies' slices. -/
def flatC : List (Nat × List Nat) → List Value → List Value
  | c :: cs, bv :: bvs => .int .i64 (c.1 : Int) :: bv :: flatC cs bvs
  | _, _ => []
theorem flatC_length : ∀ {cs : List (Nat × List Nat)} {bvs : List Value}, bvs.length = cs.length → (flatC cs bvs).length = 2 * cs.length
  | [], _, _ => by simp [flatC]
  | c :: cs, [], h => by simp at h
  | c :: cs, bv :: bvs, h => by simp only [flatC, List.length_cons]; rw [flatC_length (by simpa using h)]; omega
theorem flatC_snoc (h : Nat) (b : List Nat) (bv : Value) : ∀ {cs : List (Nat × List Nat)} {bvs : List Value}, bvs.length = cs.length → flatC (cs ++ [(h, b)]) (bvs ++ [bv]) = flatC cs bvs ++ [.int .i64 (h : Int), bv]
  | [], [], _ => rfl
  | c :: cs, [], h => by simp at h
  | [], bv :: bvs, h => by simp at h
  | c :: cs, bv :: bvs, h => by simp only [List.cons_append, flatC]; rw [flatC_snoc _ _ _ (by simpa using h)]

/-- The list of loops, as a call has made it from block S on. -/
def OutMem (S : Nat) (W : World) (ov : Value) (cs : List (Nat × List Nat)) : Prop :=
  ∃ bvs : List Value, bvs.length = cs.length ∧ W.ownsRow S 44 2 ov cs.length (flatC cs bvs) ∧
    ∀ (k : Nat) (c : Nat × List Nat) (bv : Value), cs[k]? = some c → bvs[k]? = some bv → W.ownsRow S 3 1 bv c.2.length (c.2.map encNat)
theorem OutMem.nil (S : Nat) (W : World) : OutMem S W (.slice none 0 0) [] := ⟨[], rfl, ⟨rfl, .inl ⟨rfl, rfl⟩⟩, fun k c bv h => by simp at h⟩
theorem ownsRow_below {w w' : World} {base C : Nat} {e : TypeId} {size n : Nat} {v : Value} {xs : List Value} (h : w.ownsRow base e size v n xs) (hb : Below C w w') (hC : w.heap.size ≤ C) : w'.ownsRow base e size v n xs := by
  refine ⟨h.1, ?_⟩
  rcases h.2 with h2 | ⟨g, cap, cur, rfl, hg, hh, r⟩
  · exact .inl h2
  · exact .inr ⟨g, cap, cur, rfl, hg, below_blk hb hh (by have := lt_of_block hh; omega), r⟩
theorem OutMem.below {S C : Nat} {W W' : World} {ov : Value} {cs : List (Nat × List Nat)} (h : OutMem S W ov cs) (hb : Below C W W') (hC : W.heap.size ≤ C) : OutMem S W' ov cs := by
  obtain ⟨bvs, h1, h2, h3⟩ := h
  exact ⟨bvs, h1, ownsRow_below h2 hb hC, fun k c bv hk hb' => ownsRow_below (h3 k c bv hk hb') hb hC⟩

theorem loopsUpto_succ (dq : Nat → Nat → Bool) (preds : List (List Nat)) (F : Nat → Int → Bool) (n i : Nat) :
    loopsUpto dq preds F n (i + 1) = loopsUpto dq preds F n i ++ if (headSt dq preds i).1 then [(i, bodyOf (F i) n)] else [] := by
  unfold loopsUpto
  rw [List.range_succ, List.filterMap_append]
  congr 1
  cases h : (headSt dq preds i).1 <;> simp [h]
theorem loopsUpto_len (dq : Nat → Nat → Bool) (preds : List (List Nat)) (F : Nat → Int → Bool) (n i : Nat) : (loopsUpto dq preds F n i).length ≤ i := by
  have := List.length_filterMap_le (fun h => if (headSt dq preds h).1 then some (h, bodyOf (F h) n) else none) (List.range i)
  rw [List.length_range] at this
  exact this

theorem loopMem_start {W w4 : World} {f : Int → Bool} {h : Nat} (hm : MapIB w4 (W.heap.size + 1) 1 f) (hg : ((W.alloc (.cells #[.int .i64 (h : Int)] 3)).alloc (.map #[] 0)).grownBy w4 (some (W.heap.size + 1))) :
    LoopMem W W.heap.size w4.heap.size ((((w4.alloc (.cells #[.map (some (W.heap.size + 1))] 62)).alloc (.cells #[.slice none 0 0] 29)).alloc (.cells #[.func (.func 41) #[] #[.pointer (some ⟨w4.heap.size, 0, none⟩), .pointer (some ⟨w4.heap.size + 1, 0, none⟩)]] 55)).alloc (.cells #[.bool false] 4)) 1 f (.slice none 0 0) [] h false := by
  have hs := hg.size
  simp at hs
  have hb4 : Below W.heap.size W w4 := (((Below.refl _ W).alloc (Nat.le_refl _) _).alloc (by simp) _).grown hg (by simp; omega) (by intro k e; cases e; omega)
  refine ⟨alloc_blk (alloc_blk (alloc_blk (alloc_blk (grown_blk hg (alloc_blk (new_at rfl)) (by simp))))), ?_, alloc_blk (alloc_blk (alloc_blk (new_at rfl))), alloc_blk (alloc_blk (new_at (by simp))), alloc_blk (new_at (by simp)), new_at (by simp), ⟨rfl, .inl ⟨rfl, rfl⟩⟩,
    (((hb4.alloc (by omega) _).alloc (by simp; omega) _).alloc (by simp; omega) _).alloc (by simp; omega) _, by omega⟩
  have h1 : ∀ (X : World) (o : Obj), W.heap.size + 1 < X.heap.size → MapIB X (W.heap.size + 1) 1 f → MapIB (X.alloc o) (W.heap.size + 1) 1 f := fun X o hx hX => hX.same (Below.heap_alloc _ _ _ hx)
  exact h1 _ _ (by simp; omega) (h1 _ _ (by simp; omega) (h1 _ _ (by simp; omega) (h1 _ _ (by omega) hm)))
theorem wi_start {n h : Nat} (hh : h < n) : WI n 1 (head0 h).2.1 [] := ⟨List.nodup_nil, by simp, [], List.nodup_nil, by simp, by simp⟩
/-- What a loop's book-keeping does to one round's memory: nothing. -/
theorem LoopMem.own {W0 w w2 : World} {s t nm B : Nat} {f : Int → Bool} {wv : Value} {work : List Nat} {h : Nat} {bk : Bool} {row : Option Nat} (hM : LoopMem W0 s t w nm f wv work h bk) (hg : w.grownBy w2 row)
    (hne : ∀ r, row = some r → B ≤ r ∧ ∃ o : Obj, w.heap[r]? = some o ∧ o.isCells = false) (hB : t ≤ B) : LoopMem W0 s t w2 nm f wv work h bk := by
  obtain ⟨hh, hm0, hi, hw, ha, hb, ho, hbel, lt⟩ := hM
  have aux : ∀ {b : Nat} {cs : Array Value} {t : TypeId}, w.heap[b]? = some (.cells cs t (0, 0)) → row ≠ some b := by
    rintro b cs t hb e; obtain ⟨_, o, ho, hc⟩ := hne b e; rw [hb] at ho; cases ho; cases hc
  have auxm : some (s + 1) ≠ row := fun e => by have := (hne _ e.symm).1; omega
  refine ⟨grown_blk hg hh (aux hh), hm0.same (hg.block _ hm0.lt auxm), grown_blk hg hi (aux hi), grown_blk hg hw (aux hw), grown_blk hg ha (aux ha), grown_blk hg hb (aux hb), ho.kept hg ?_, hbel.grown hg (by have := lt_of_block hh; omega) (fun k e => by have := (hne k e).1; omega), lt⟩
  rcases ho.2 with ⟨rfl, _⟩ | ⟨g, cap, cur, rfl, h1, h2, _⟩
  · exact .inl rfl
  · right; simp only [Value.ownBlock]; exact fun e => aux h2 e.symm
theorem LoopMem.back {W0 w : World} {s t nm : Nat} {f : Int → Bool} {wv : Value} {work : List Nat} {h : Nat} {bk : Bool} (hM : LoopMem W0 s t w nm f wv work h bk) (bk' : Bool) : LoopMem W0 s t (w.setCell ⟨t + 3, 0, none⟩ (.bool bk')) nm f wv work h bk' := by
  obtain ⟨hh, hm0, hi, hw, ha, hb, ho, hbel, lt⟩ := hM
  exact ⟨set_blk hh (by simp <;> omega), hm0.same (Below.heap_setCell _ _ _ _ (show s + 1 ≠ t + 3 by omega)), set_blk hi (by simp <;> omega), set_blk hw (by simp <;> omega), set_blk ha (by simp <;> omega), one_setCell hb,
    ownsRow_setCell_other ho (fun e => by have := (ho.lt _ e).1; simp at this) _, hbel.setCell (show s ≤ t + 3 by omega) _, lt⟩
theorem LoopMem.drewN {W0 w : World} {s t nm : Nat} {f : Int → Bool} {wv : Value} {work : List Nat} {h : Nat} {bk : Bool} (hM : LoopMem W0 s t w nm f wv work h bk) (n : Nat) : LoopMem W0 s t (w.drewN n) nm f wv work h bk :=
  ⟨hM.hh, hM.hm.same rfl, hM.hi, hM.hw, hM.ha, hM.hb, hM.ho, below_drewN hM.hbel, hM.lt⟩
/-- The marks lie where nothing is touched. -/
theorem Marks.below {B C : Nat} {W W' : World} {ds : List Deferred} (h : Marks B W ds) (hb : Below C W W') (hC : W.heap.size ≤ C) : Marks B W' ds := by
  obtain ⟨Ds, rfl, h1, h2⟩ := h
  exact ⟨Ds, rfl, h1, fun D hD => ⟨(h2 D hD).1, below_blk hb (h2 D hD).2 (by have := (Array.getElem?_eq_some_iff.1 (h2 D hD).2).1; omega)⟩⟩
theorem Marks.push' {B : Nat} {W0 W : World} {ds : List Deferred} {D C : Nat} (h : Marks B W0 ds) (hb : Below C W0 W) (hC : W0.heap.size ≤ C) (hD : W0.heap.size ≤ D) (hB : B ≤ D) (hd : W.heap[D]? = some (.deferred (some []))) :
    Marks B W ({ target := .collected D, args := #[] } :: ds) := by
  have h' := h.below hb hC
  obtain ⟨Ds, rfl, h1, h2⟩ := h
  obtain ⟨Ds', e, h1', h2'⟩ := h'
  refine ⟨D :: Ds, rfl, List.nodup_cons.2 ⟨fun hm => ?_, h1⟩, fun E hE => ?_⟩
  · have := (Array.getElem?_eq_some_iff.1 (h2 D hm).2).1; omega
  · rcases List.mem_cons.1 hE with rfl | hE
    · exact ⟨hB, hd⟩
    · exact ⟨(h2 E hE).1, below_blk hb (h2 E hE).2 (by have := (Array.getElem?_eq_some_iff.1 (h2 E hE).2).1; omega)⟩
/-- What add leaves of what the iterator reads. -/
theorem AddT.itRead {s t : Nat} {wv wv' : Value} {W W' : World} (hT : AddT s t wv wv' W W') {Bv Bn n : Nat} {xs : List Nat} {bv bp op len cap : Nat} {ar : Option Addr} {capr : Nat} (h : ItRead Bv Bn n xs bv bp op len cap ar capr W)
    (h1 : ∀ k, k = Bv ∨ k = Bn → k ≠ s + 1 ∧ k ≠ t + 1 ∧ wv.ownBlock ≠ some k) (C : Nat) (hC : ∀ k, k < C → k ≠ s + 1 ∧ k ≠ t + 1 ∧ wv.ownBlock ≠ some k) (hbv : bv < C) (hbp : bp < C) (har : ∀ (j y : Nat), xs[j]? = some y → ∀ a, ar = some a → a.block < C) :
    ItRead Bv Bn n xs bv bp op len cap ar capr W' := by
  have up : ∀ {a : Addr} {v : Value}, W.cell? a = some v → a.block ≠ s + 1 ∧ a.block ≠ t + 1 ∧ wv.ownBlock ≠ some a.block → W'.cell? a = some v := fun {a v} h hk => by
    have := hT.blk a.block (World.block_lt_of_cell? W a h) hk.1 hk.2.1 hk.2.2
    rw [World.cell?_of_block this]; exact h
  obtain ⟨c1, c2, c3, hn, c4, hc⟩ := h
  refine ⟨up c1 (h1 _ (.inl rfl)), up c2 (h1 _ (.inr rfl)), up c3 (hC _ hbv), hn, up c4 (hC _ hbp), fun j x hj => ?_⟩
  obtain ⟨b, o, e, c⟩ := hc j x hj
  exact ⟨b, o, e, up (a := ⟨b, o + j, none⟩) c (hC b (har j x hj ⟨b, o, none⟩ e))⟩
theorem AddT.keeps {s t B : Nat} {wv wv' : Value} {W W' : World} (hT : AddT s t wv wv' W W') (h1 : s + 1 < B) (h2 : t + 1 < B) {size n : Nat} {e : TypeId} {xs : List Value} {base : Nat} (ho : W.ownsRow base e size wv n xs) : KeepsFrom B W W' :=
  ⟨hT.size, fun k o hB hk hc => (hT.blk k (Array.getElem?_eq_some_iff.1 hk).1 (by omega) (by omega) (fun e' => by
    rcases ho.2 with ⟨rfl, _⟩ | ⟨g, cap, cur, rfl, _, hg, _⟩
    · simp [Value.ownBlock] at e'
    · simp only [Value.ownBlock, Option.some.injEq] at e'; subst e'; rw [hg] at hk; cases hk; cases hc)).trans hk⟩
theorem ownsRow_pop {w : World} {base g cap n : Nat} {e : TypeId} {xs : List Value} {x : Value} (h : w.ownsRow base e 1 (.slice (some ⟨g, 0, none⟩) (n + 1) cap) (n + 1) (xs ++ [x])) : w.ownsRow base e 1 (.slice (some ⟨g, 0, none⟩) n cap) n xs := by
  have hl := h.1
  simp only [List.length_append, List.length_singleton, Nat.mul_one] at hl
  refine ⟨by omega, .inr ?_⟩
  rcases h.2 with ⟨hv, _⟩ | ⟨g', cap', cur, hv, hg, hh, h1, h2, h3, h4⟩
  · cases hv
  · cases hv
    refine ⟨g, cap, cur, rfl, hg, hh, by omega, h2, h3, ?_⟩
    have : (cur.toList.take (n + 1)).take n = (xs ++ [x]).take n := by rw [Nat.mul_one] at h4; rw [h4]
    rw [List.take_take, Nat.min_eq_left (by omega), List.take_append_of_le_length (by omega), List.take_of_length_le (l := xs) (by omega)] at this
    rw [Nat.mul_one]; exact this
theorem LoopMem.pop {W0 w : World} {s t nm g cap : Nat} {f : Int → Bool} {st : List Nat} {x : Nat} {h : Nat} {bk : Bool} (hM : LoopMem W0 s t w nm f (.slice (some ⟨g, 0, none⟩) (st.length + 1) cap) (st ++ [x]) h bk) :
    LoopMem W0 s t (w.setCell ⟨t + 1, 0, none⟩ (.slice (some ⟨g, 0, none⟩) st.length cap)) nm f (.slice (some ⟨g, 0, none⟩) st.length cap) st h bk := by
  obtain ⟨hh, hm0, hi, hw, ha, hb, ho, hbel, lt⟩ := hM
  simp only [List.length_append, List.length_singleton, List.map_append, List.map_cons, List.map_nil] at ho
  have ho' := ownsRow_pop ho
  exact ⟨set_blk hh (by simp <;> omega), hm0.same (Below.heap_setCell _ _ _ _ (show s + 1 ≠ t + 1 by omega)), set_blk hi (by simp <;> omega), one_setCell hw, set_blk ha (by simp <;> omega), set_blk hb (by simp <;> omega),
    ownsRow_setCell_other ho' (fun e => by have := (ho'.lt _ e).1; simp at this) _, hbel.setCell (show s ≤ t + 1 by omega) _, lt⟩
theorem ownsRow_own {w w2 : World} {base n size : Nat} {e : TypeId} {v : Value} {xs : List Value} {row : Option Nat} (h : w.ownsRow base e size v n xs) (hg : w.grownBy w2 row) (hne : ∀ r, row = some r → ∃ o : Obj, w.heap[r]? = some o ∧ o.isCells = false) : w2.ownsRow base e size v n xs := by
  refine h.kept hg ?_
  rcases h.2 with ⟨rfl, _⟩ | ⟨g, cap, cur, rfl, h1, h2, _⟩
  · exact .inl rfl
  · right; simp only [Value.ownBlock]
    intro e'; obtain ⟨o, ho, hc⟩ := hne g e'.symm; rw [h2] at ho; cases ho; cases hc
theorem OutMem.own {S : Nat} {W W' : World} {ov : Value} {cs : List (Nat × List Nat)} {row : Option Nat} (h : OutMem S W ov cs) (hg : W.grownBy W' row) (hne : ∀ r, row = some r → ∃ o : Obj, W.heap[r]? = some o ∧ o.isCells = false) : OutMem S W' ov cs := by
  obtain ⟨bvs, h1, h2, h3⟩ := h
  exact ⟨bvs, h1, ownsRow_own h2 hg hne, fun k c bv hk hb' => ownsRow_own (h3 k c bv hk hb') hg hne⟩
theorem OutMem.mono {S S' : Nat} {W : World} {ov : Value} {cs : List (Nat × List Nat)} (h : OutMem S W ov cs) (hS : S' ≤ S) : OutMem S' W ov cs := by
  obtain ⟨bvs, h1, h2, h3⟩ := h
  exact ⟨bvs, h1, ownsRow_mono h2 hS, fun k c bv hk hb' => ownsRow_mono (h3 k c bv hk hb') hS⟩
/-- Whatever is no cells and is not block b lies as it lay. -/
structure KeepsMap (b : Nat) (W W' : World) : Prop where
  size : W.heap.size ≤ W'.heap.size
  same : ∀ (k : Nat) (o : Obj), k ≠ b → W.heap[k]? = some o → o.isCells = false → W'.heap[k]? = some o
theorem KeepsMap.refl (b : Nat) (W : World) : KeepsMap b W W := ⟨Nat.le_refl _, fun _ _ _ h _ => h⟩
theorem KeepsMap.trans {b : Nat} {X Y Z : World} (h : KeepsMap b X Y) (k : KeepsMap b Y Z) : KeepsMap b X Z := ⟨Nat.le_trans h.size k.size, fun i o hb hi ho => k.same i o hb (h.same i o hb hi ho) ho⟩
theorem KeepsMap.own {b B : Nat} {W X Y : World} {row : Option Nat} (h : KeepsMap b W X) (hg : X.grownBy Y row) (hr : ∀ r, row = some r → B ≤ r) (hB : W.heap.size ≤ B) : KeepsMap b W Y :=
  ⟨Nat.le_trans h.size hg.size, fun k o hb hk ho => by
    have hX := h.same k o hb hk ho
    exact (hg.block k (Array.getElem?_eq_some_iff.1 hX).1 (fun e => by have := hr k e.symm; have := (Array.getElem?_eq_some_iff.1 hk).1; omega)).trans hX⟩
theorem AddT.keepsMap {s t : Nat} {wv wv' : Value} {W W' : World} (hT : AddT s t wv wv' W W') {cs : Array Value} {ty : TypeId} (hw : W.heap[t + 1]? = some (.cells cs ty (0, 0))) {size n : Nat} {e : TypeId} {xs : List Value} {base : Nat} (ho : W.ownsRow base e size wv n xs) : KeepsMap (s + 1) W W' :=
  ⟨hT.size, fun k o hb hk hc => (hT.blk k (Array.getElem?_eq_some_iff.1 hk).1 hb (fun e' => by subst e'; rw [hw] at hk; cases hk; cases hc) (fun e' => by
    rcases ho.2 with ⟨rfl, _⟩ | ⟨g, cap, cur, rfl, _, hg, _⟩
    · simp [Value.ownBlock] at e'
    · simp only [Value.ownBlock, Option.some.injEq] at e'; subst e'; rw [hg] at hk; cases hk; cases hc)).trans hk⟩
theorem Marks.keepsMap {B b : Nat} {W W' : World} {ds : List Deferred} (h : Marks B W ds) (hk : KeepsMap b W W') {nm : Nat} {f : Int → Bool} (hm : MapIB W b nm f) : Marks B W' ds := by
  obtain ⟨Ds, rfl, h1, h2⟩ := h
  refine ⟨Ds, rfl, h1, fun D hD => ⟨(h2 D hD).1, hk.same D _ (fun e => ?_) (h2 D hD).2 rfl⟩⟩
  subst e
  obtain ⟨Dd, ⟨es, clock, hh, _⟩, _⟩ := hm
  have := (h2 _ hD).2; rw [hh] at this; cases this
theorem Marks.cons {B : Nat} {W : World} {ds : List Deferred} {D : Nat} (h : Marks B W ds) (hD : ∀ d ∈ ds, d ≠ { target := .collected D, args := #[] }) (hB : B ≤ D) (hd : W.heap[D]? = some (.deferred (some []))) : Marks B W ({ target := .collected D, args := #[] } :: ds) := by
  obtain ⟨Ds, rfl, h1, h2⟩ := h
  refine ⟨D :: Ds, rfl, List.nodup_cons.2 ⟨fun hm => hD _ (List.mem_map.2 ⟨D, hm, rfl⟩) rfl, h1⟩, fun E hE => ?_⟩
  rcases List.mem_cons.1 hE with rfl | hE
  · exact ⟨hB, hd⟩
  · exact h2 E hE
theorem Marks.ne {B : Nat} {W : World} {ds : List Deferred} {D : Nat} (h : Marks B W ds) (hD : W.heap.size ≤ D) : ∀ d ∈ ds, d ≠ { target := .collected D, args := #[] } := by
  obtain ⟨Ds, rfl, h1, h2⟩ := h
  intro d hd e
  obtain ⟨E, hE, rfl⟩ := List.mem_map.1 hd
  simp at e; subst e
  have := (Array.getElem?_eq_some_iff.1 (h2 _ hE).2).1; omega
/-- A loop's body being collected, in the record at block q. -/
structure BodyMem (V W : World) (q i : Nat) (bv : Value) (bs : List Nat) : Prop where
  hq : W.heap[q]? = some (.cells #[.int .i64 (i : Int), bv] 44 (0, 0))
  ho : W.ownsRow (q + 1) 3 1 bv bs.length (bs.map encNat)
  hb : Below q V W
theorem BodyMem.start (V : World) (i : Nat) : BodyMem V (V.alloc (.cells #[.int .i64 (i : Int), .slice none 0 0] 44)) V.heap.size i (.slice none 0 0) [] := ⟨new_at rfl, ⟨rfl, .inl ⟨rfl, rfl⟩⟩, (Below.refl _ _).alloc (Nat.le_refl _) _⟩
theorem BodyMem.push {V W w2 : World} {q i : Nat} {bv bv' : Value} {bs bs' : List Nat} (h : BodyMem V W q i bv bs) (o : Obj) (hg : (W.alloc o).grownBy w2 bv.ownBlock) (ho2 : w2.ownsRow (q + 1) 3 1 bv' bs'.length (bs'.map encNat)) :
    BodyMem V (w2.setCell ⟨q, 1, none⟩ bv') q i bv' bs' := by
  obtain ⟨hq, ho, hb⟩ := h
  have hl := lt_of_block hq
  refine ⟨?_, ownsRow_setCell_other ho2 (fun e => by have := (ho2.lt _ e).1; dsimp only at this; omega) _, ((hb.alloc (by omega) o).grown hg (by simp; omega) (fun k e => by have := (ho.lt k e).1; omega)).setCell (show q ≤ q from Nat.le_refl _) _⟩
  rw [heap_setCell_self (grown_blk hg (alloc_blk hq) (fun e => by have := (ho.lt _ e).1; omega))]
  simp
/-- One loop more. -/
theorem OutMem.push {S : Nat} {W1 W2 : World} {ov ov' : Value} {cs : List (Nat × List Nat)} {i : Nat} {bv : Value} {body : List Nat} {bvs : List Value} (h1 : bvs.length = cs.length) (h2 : W1.ownsRow S 44 2 ov cs.length (flatC cs bvs))
    (h3 : ∀ (k : Nat) (c : Nat × List Nat) (bv : Value), cs[k]? = some c → bvs[k]? = some bv → W1.ownsRow S 3 1 bv c.2.length (c.2.map encNat)) (hg : W1.grownBy W2 ov.ownBlock) (hbody : W1.ownsRow S 3 1 bv body.length (body.map encNat))
    (ho : W2.ownsRow S 44 2 ov' (cs.length + 1) (flatC cs bvs ++ [.int .i64 (i : Int), bv])) : OutMem S W2 ov' (cs ++ [(i, body)]) := by
  have key : ∀ {v : Value} {l : List Nat}, W1.ownsRow S 3 1 v l.length (l.map encNat) → W2.ownsRow S 3 1 v l.length (l.map encNat) := fun {v l} hv => hv.kept hg (ownsRow_apart hv h2 (by decide))
  refine ⟨bvs ++ [bv], by simp [h1], by rw [flatC_snoc _ _ _ h1, List.length_append]; exact ho, fun k c v hk hv => ?_⟩
  by_cases hlt : k < cs.length
  · rw [List.getElem?_append_left hlt] at hk
    rw [List.getElem?_append_left (by omega)] at hv
    exact key (h3 k c v hk hv)
  · have hk2 := (List.getElem?_eq_some_iff.1 hk).1
    simp at hk2
    obtain rfl : k = cs.length := by omega
    rw [List.getElem?_append_right (Nat.le_refl _)] at hk
    rw [List.getElem?_append_right (by omega)] at hv
    simp at hk
    simp [h1] at hv
    subst hk; subst hv
    exact key hbody
theorem Try.info_cycle : (Try.prog.info? 44).map (fun i => (i.zero, i.size, i.bytes)) = some (some (.agg #[.int .i64 0, .slice none 0 0]), 2, 32) := by kernel_rfl
def bodyUp (F : Int → Bool) (m : Nat) : List Nat := (List.range m).filter fun x => F (x : Int)
theorem bodyUp_succ (F : Int → Bool) (m : Nat) : bodyUp F (m + 1) = bodyUp F m ++ if F (m : Int) then [m] else [] := by
  unfold bodyUp
  rw [List.range_succ, List.filter_append]
  congr 1
  cases h : F (m : Int) <;> simp [h]
theorem bodyUp_len (F : Int → Bool) (m : Nat) : (bodyUp F m).length ≤ m := by
  have := List.length_filter_le (fun x : Nat => F (x : Int)) (List.range m)
  rw [List.length_range] at this; exact this
theorem keeps0_row {W W' : World} {base n size : Nat} {e : TypeId} {v : Value} {xs : List Value} (h : W.ownsRow base e size v n xs) (hg : W.grownBy W' v.ownBlock) : KeepsFrom 0 W W' :=
  ⟨hg.size, fun k o _ hk hc => (hg.block k (Array.getElem?_eq_some_iff.1 hk).1 (fun e' => by
    rcases h.2 with ⟨rfl, _⟩ | ⟨g, cap, cur, rfl, _, hh, _⟩
    · simp [Value.ownBlock] at e'
    · simp only [Value.ownBlock, Option.some.injEq] at e'; subst e'; rw [hh] at hk; cases hk; cases hc)).trans hk⟩
end Go.Proofs.Ytpfinkcnklkclaa
