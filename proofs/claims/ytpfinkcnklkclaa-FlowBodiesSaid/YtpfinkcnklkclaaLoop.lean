/-
  The walk of flow.Loops.
-/
import Derived.Test.YtpfinkcnklkclaaLoop0
set_option linter.unusedVariables false
set_option linter.unusedSimpArgs false
namespace Go.Proofs.Ytpfinkcnklkclaa
open Go.RowKit Go.Shelf
attribute [local go_sem] Oper.semAt_some

/-- What does not change while the loops are sought: all of it below block S. -/
structure LStat (W : World) (S gb vb ib bv b n : Nat) (a : Option Addr) (cap : Nat) (ord : List Nat) (f : Int → Int) (preds : List (List Nat)) (idom : List Int) : Prop where
  cg : W.cell? ⟨gb, 0, none⟩ = some (.slice a n cap)
  cv : W.cell? ⟨vb, 0, none⟩ = some (.pointer (some ⟨bv, 0, none⟩))
  ci : W.cell? ⟨ib, 0, none⟩ = some (.slice (some ⟨b, 0, none⟩) n n)
  hrow : W.heap[b]? = some (.cells (idom.map (Value.int .i64)).toArray 3 (0, 0))
  hvr : VRead W S bv ord f preds
  lt : gb < S ∧ vb < S ∧ ib < S ∧ b < S
theorem LStat.below {W W' : World} {S gb vb ib bv b n : Nat} {a : Option Addr} {cap : Nat} {ord : List Nat} {f : Int → Int} {preds : List (List Nat)} {idom : List Int} (h : LStat W S gb vb ib bv b n a cap ord f preds idom) (hb : Below S W W') :
    LStat W' S gb vb ib bv b n a cap ord f preds idom := by
  obtain ⟨cg, cv, ci, hrow, hvr, lt⟩ := h
  exact ⟨(hb.cell (p := ⟨gb, 0, none⟩) lt.1).trans cg, (hb.cell (p := ⟨vb, 0, none⟩) lt.2.1).trans cv, (hb.cell (p := ⟨ib, 0, none⟩) lt.2.2.1).trans ci, below_blk hb hrow lt.2.2.2, hvr.below hb, lt⟩
theorem lstat_start {w w2 w3 : World} {bv b n : Nat} {a : Option Addr} {cap : Nat} {ord : List Nat} {f : Int → Int} {preds : List (List Nat)} {idom : List Int} (hlt : w.heap.size < w2.heap.size) (cg : w2.cell? ⟨w.heap.size, 0, none⟩ = some (.slice a n cap))
    (hvr : VRead w2 w2.heap.size bv ord f preds) (hb3 : Below (w2.heap.size + 1) (w2.alloc (.cells #[.pointer (some ⟨bv, 0, none⟩)] 59)) w3) (hrow : w3.heap[b]? = some (.cells (idom.map (Value.int .i64)).toArray 3 (0, 0))) :
    LStat (w3.alloc (.cells #[.slice (some ⟨b, 0, none⟩) n n] 29)) (w3.heap.size + 1) w.heap.size w2.heap.size w3.heap.size bv b n a cap ord f preds idom := by
  have hs := hb3.size
  simp at hs
  have hb2 : Below w2.heap.size w2 (w2.alloc (.cells #[.pointer (some ⟨bv, 0, none⟩)] 59)) := (Below.refl _ _).alloc (Nat.le_refl _) _
  have hbb : Below w2.heap.size w2 w3 := hb2.trans (hb3.mono (by omega))
  have hb4 : Below w3.heap.size w3 (w3.alloc (.cells #[.slice (some ⟨b, 0, none⟩) n n] 29)) := (Below.refl _ _).alloc (Nat.le_refl _) _
  have hb5 := hbb.trans (hb4.mono hbb.size)
  exact ⟨(hb5.cell (p := ⟨w.heap.size, 0, none⟩) hlt).trans cg, cell_of_one (alloc_blk (below_blk hb3 (new_at rfl) (by omega))), cell_of_one (new_at rfl), alloc_blk hrow, (hvr.below hb5).mono (by omega), by have := lt_of_block hrow; omega⟩

theorem lstat_dom {W : World} {S gb vb ib bv b n : Nat} {a : Option Addr} {cap : Nat} {ord : List Nat} {f : Int → Int} {preds : List (List Nat)} {idom : List Int} (h : LStat W S gb vb ib bv b n a cap ord f preds idom) (hn : n ≤ 2000000) (hl : idom.length = n) {d u k r : Nat} (hd : d < n) (hu : u < n) (hU : UpN idom f (f d) k u r) :
    Calls Try.prog 43 #[.pointer (some ⟨bv, 0, none⟩), .slice (some ⟨b, 0, none⟩) n n, .int .i64 (d : Int), .int .i64 (u : Int)] W fun e w' => e = .returned (.bool (decide (r = d))) ∧ ∃ m, w' = W.drewN m := by
  obtain ⟨cg, cv, ci, hrow, hvr, lt⟩ := h
  obtain ⟨ov, bm, pv, nm, e0, e1, e2, ho, hm, hm2, hp, hlb⟩ := hvr
  have hsl : SliceOf encInt W W.heap.size (.slice (some ⟨b, 0, none⟩) idom.length n) idom := ⟨_, _, rfl, by rw [hl]; exact Nat.le_refl _, fun k x hk => ⟨b, 0, rfl, lt_of_block hrow, by rw [Nat.zero_add]; exact cell_of_blk hrow (by simp [hk, encInt])⟩⟩
  have := dominates_any W bv bm nm b n (some ⟨b, 0, none⟩) f idom (by rw [hl]; exact hn) W.heap.size e1 hm hsl k d u r (by rw [hl]; exact hu) (by rw [hl]; exact hd) hU
  rw [hl] at this
  exact this

/-- Ahead of round i of the loop over the heads. -/
def LoopI (n base gb vb ib S : Nat) (a : Option Addr) (cap : Nat) (W3 : World) (dq : Nat → Nat → Bool) (preds : List (List Nat)) (F : Nat → Int → Bool) (k : Nat) (a0 : Act) (W : World) : Prop :=
  ∃ (i : Nat) (ov : Value) (ds : List Deferred) (u : Nat → Value), a0 = { tmps := #[.agg #[.slice a n cap], .pointer (some ⟨gb, 0, none⟩), .slice none 0 0, .pointer (some ⟨vb, 0, none⟩), .pointer (some ⟨ib, 0, none⟩), ov, u 6, u 7, u 8, u 9, u 10, u 11, u 12, u 13, u 14, u 15, u 16, u 17, u 18, u 19, u 20, u 21, u 22, u 23, u 24, u 25, u 26, u 27, .int .i64 (n : Int), .int .i64 (i : Int), u 30, u 31, u 32, u 33, u 34, u 35, u 36, u 37, u 38, u 39, u 40, u 41, u 42, u 43, u 44, u 45, u 46, u 47, u 48, u 49, u 50, u 51, u 52, u 53, u 54, u 55, u 56, u 57, u 58, u 59, u 60, u 61, u 62, u 63, u 64, u 65, u 66, u 67, u 68, u 69, u 70, u 71, u 72, u 73, u 74, u 75, u 76, u 77, u 78, u 79, u 80, u 81, u 82, u 83, u 84, u 85, u 86, u 87, u 88, u 89, u 90, u 91, u 92, u 93], defers := ds } ∧ k + i = n ∧ Marks base W ds ∧ Below S W3 W ∧ OutMem S W ov (loopsUpto dq preds F n i)
theorem LoopI.mk {n base gb vb ib S : Nat} {a : Option Addr} {cap : Nat} {W3 : World} {dq : Nat → Nat → Bool} {preds : List (List Nat)} {F : Nat → Int → Bool} {k i : Nat} {ov : Value} {ds : List Deferred} {W : World} {x6 x7 x8 x9 x10 x11 x12 x13 x14 x15 x16 x17 x18 x19 x20 x21 x22 x23 x24 x25 x26 x27 x30 x31 x32 x33 x34 x35 x36 x37 x38 x39 x40 x41 x42 x43 x44 x45 x46 x47 x48 x49 x50 x51 x52 x53 x54 x55 x56 x57 x58 x59 x60 x61 x62 x63 x64 x65 x66 x67 x68 x69 x70 x71 x72 x73 x74 x75 x76 x77 x78 x79 x80 x81 x82 x83 x84 x85 x86 x87 x88 x89 x90 x91 x92 x93 : Value}
    (h1 : k + i = n) (h2 : Marks base W ds) (h3 : Below S W3 W) (h4 : OutMem S W ov (loopsUpto dq preds F n i)) : LoopI n base gb vb ib S a cap W3 dq preds F k { tmps := #[.agg #[.slice a n cap], .pointer (some ⟨gb, 0, none⟩), .slice none 0 0, .pointer (some ⟨vb, 0, none⟩), .pointer (some ⟨ib, 0, none⟩), ov, x6, x7, x8, x9, x10, x11, x12, x13, x14, x15, x16, x17, x18, x19, x20, x21, x22, x23, x24, x25, x26, x27, .int .i64 (n : Int), .int .i64 (i : Int), x30, x31, x32, x33, x34, x35, x36, x37, x38, x39, x40, x41, x42, x43, x44, x45, x46, x47, x48, x49, x50, x51, x52, x53, x54, x55, x56, x57, x58, x59, x60, x61, x62, x63, x64, x65, x66, x67, x68, x69, x70, x71, x72, x73, x74, x75, x76, x77, x78, x79, x80, x81, x82, x83, x84, x85, x86, x87, x88, x89, x90, x91, x92, x93], defers := ds } W :=
  ⟨i, ov, ds, fun j => match j with | 6 => x6 | 7 => x7 | 8 => x8 | 9 => x9 | 10 => x10 | 11 => x11 | 12 => x12 | 13 => x13 | 14 => x14 | 15 => x15 | 16 => x16 | 17 => x17 | 18 => x18 | 19 => x19 | 20 => x20 | 21 => x21 | 22 => x22 | 23 => x23 | 24 => x24 | 25 => x25 | 26 => x26 | 27 => x27 | 30 => x30 | 31 => x31 | 32 => x32 | 33 => x33 | 34 => x34 | 35 => x35 | 36 => x36 | 37 => x37 | 38 => x38 | 39 => x39 | 40 => x40 | 41 => x41 | 42 => x42 | 43 => x43 | 44 => x44 | 45 => x45 | 46 => x46 | 47 => x47 | 48 => x48 | 49 => x49 | 50 => x50 | 51 => x51 | 52 => x52 | 53 => x53 | 54 => x54 | 55 => x55 | 56 => x56 | 57 => x57 | 58 => x58 | 59 => x59 | 60 => x60 | 61 => x61 | 62 => x62 | 63 => x63 | 64 => x64 | 65 => x65 | 66 => x66 | 67 => x67 | 68 => x68 | 69 => x69 | 70 => x70 | 71 => x71 | 72 => x72 | 73 => x73 | 74 => x74 | 75 => x75 | 76 => x76 | 77 => x77 | 78 => x78 | 79 => x79 | 80 => x80 | 81 => x81 | 82 => x82 | 83 => x83 | 84 => x84 | 85 => x85 | 86 => x86 | 87 => x87 | 88 => x88 | 89 => x89 | 90 => x90 | 91 => x91 | 92 => x92 | 93 => x93 | _ => undef, rfl, h1, h2, h3, h4⟩

/-- Ahead of a round of the loop over the work list. -/
def WorkI (n base gb vb ib s t : Nat) (a : Option Addr) (cap : Nat) (i : Nat) (bk : Bool) (ov : Value) (W : World) (preds : List (List Nat)) (F : Int → Bool) (k : Nat) (a0 : Act) (V : World) : Prop :=
  ∃ (ds : List Deferred) (u : Nat → Value), a0 = { tmps := #[.agg #[.slice a n cap], .pointer (some ⟨gb, 0, none⟩), .slice none 0 0, .pointer (some ⟨vb, 0, none⟩), .pointer (some ⟨ib, 0, none⟩), ov, .pointer (some ⟨s, 0, none⟩), .pointer (some ⟨t, 0, none⟩), .pointer (some ⟨t + 1, 0, none⟩), .pointer (some ⟨t + 1 + 1, 0, none⟩), .pointer (some ⟨t + 1 + 1 + 1, 0, none⟩), u 11, u 12, u 13, u 14, u 15, u 16, u 17, u 18, u 19, u 20, u 21, u 22, u 23, u 24, u 25, u 26, u 27, .int .i64 (n : Int), .int .i64 (i : Int), u 30, u 31, u 32, u 33, u 34, u 35, u 36, u 37, u 38, u 39, u 40, u 41, u 42, u 43, u 44, u 45, u 46, u 47, u 48, u 49, u 50, u 51, u 52, u 53, u 54, u 55, u 56, u 57, u 58, u 59, u 60, u 61, u 62, u 63, u 64, u 65, u 66, u 67, u 68, u 69, u 70, u 71, u 72, u 73, u 74, u 75, u 76, u 77, u 78, u 79, u 80, u 81, u 82, u 83, u 84, u 85, u 86, u 87, u 88, u 89, u 90, u 91, u 92, u 93], defers := ds } ∧ Marks base V ds ∧ ∃ nm f wv work, LoopMem W s t V nm f wv work i bk ∧ WI n nm f work ∧ WorkR preds k f work F
theorem WorkI.mk {n base gb vb ib s t : Nat} {a : Option Addr} {cap i : Nat} {bk : Bool} {ov : Value} {W : World} {preds : List (List Nat)} {F : Int → Bool} {k : Nat} {ds : List Deferred} {V : World} {x11 x12 x13 x14 x15 x16 x17 x18 x19 x20 x21 x22 x23 x24 x25 x26 x27 x30 x31 x32 x33 x34 x35 x36 x37 x38 x39 x40 x41 x42 x43 x44 x45 x46 x47 x48 x49 x50 x51 x52 x53 x54 x55 x56 x57 x58 x59 x60 x61 x62 x63 x64 x65 x66 x67 x68 x69 x70 x71 x72 x73 x74 x75 x76 x77 x78 x79 x80 x81 x82 x83 x84 x85 x86 x87 x88 x89 x90 x91 x92 x93 : Value}
    (h1 : Marks base V ds) {nm : Nat} {f : Int → Bool} {wv : Value} {work : List Nat} (h2 : LoopMem W s t V nm f wv work i bk) (h3 : WI n nm f work) (h4 : WorkR preds k f work F) : WorkI n base gb vb ib s t a cap i bk ov W preds F k { tmps := #[.agg #[.slice a n cap], .pointer (some ⟨gb, 0, none⟩), .slice none 0 0, .pointer (some ⟨vb, 0, none⟩), .pointer (some ⟨ib, 0, none⟩), ov, .pointer (some ⟨s, 0, none⟩), .pointer (some ⟨t, 0, none⟩), .pointer (some ⟨t + 1, 0, none⟩), .pointer (some ⟨t + 1 + 1, 0, none⟩), .pointer (some ⟨t + 1 + 1 + 1, 0, none⟩), x11, x12, x13, x14, x15, x16, x17, x18, x19, x20, x21, x22, x23, x24, x25, x26, x27, .int .i64 (n : Int), .int .i64 (i : Int), x30, x31, x32, x33, x34, x35, x36, x37, x38, x39, x40, x41, x42, x43, x44, x45, x46, x47, x48, x49, x50, x51, x52, x53, x54, x55, x56, x57, x58, x59, x60, x61, x62, x63, x64, x65, x66, x67, x68, x69, x70, x71, x72, x73, x74, x75, x76, x77, x78, x79, x80, x81, x82, x83, x84, x85, x86, x87, x88, x89, x90, x91, x92, x93], defers := ds } V :=
  ⟨ds, fun j => match j with | 11 => x11 | 12 => x12 | 13 => x13 | 14 => x14 | 15 => x15 | 16 => x16 | 17 => x17 | 18 => x18 | 19 => x19 | 20 => x20 | 21 => x21 | 22 => x22 | 23 => x23 | 24 => x24 | 25 => x25 | 26 => x26 | 27 => x27 | 30 => x30 | 31 => x31 | 32 => x32 | 33 => x33 | 34 => x34 | 35 => x35 | 36 => x36 | 37 => x37 | 38 => x38 | 39 => x39 | 40 => x40 | 41 => x41 | 42 => x42 | 43 => x43 | 44 => x44 | 45 => x45 | 46 => x46 | 47 => x47 | 48 => x48 | 49 => x49 | 50 => x50 | 51 => x51 | 52 => x52 | 53 => x53 | 54 => x54 | 55 => x55 | 56 => x56 | 57 => x57 | 58 => x58 | 59 => x59 | 60 => x60 | 61 => x61 | 62 => x62 | 63 => x63 | 64 => x64 | 65 => x65 | 66 => x66 | 67 => x67 | 68 => x68 | 69 => x69 | 70 => x70 | 71 => x71 | 72 => x72 | 73 => x73 | 74 => x74 | 75 => x75 | 76 => x76 | 77 => x77 | 78 => x78 | 79 => x79 | 80 => x80 | 81 => x81 | 82 => x82 | 83 => x83 | 84 => x84 | 85 => x85 | 86 => x86 | 87 => x87 | 88 => x88 | 89 => x89 | 90 => x90 | 91 => x91 | 92 => x92 | 93 => x93 | _ => undef, rfl, h1, nm, f, wv, work, h2, h3, h4⟩

set_option maxRecDepth 100000 in
set_option maxHeartbeats 4000000 in
theorem flow_loops_is (w : World) (sv : Value) (g : List (List Nat)) (B : Nat) (hB : B ≤ w.heap.size) (h : RowsOf encNat w B sv g) (hv : ValidG g) (hn : g.length ≤ 2000000) (hr : ∀ row ∈ g, row.length ≤ 2000000) (ns : List Nat) (hF : IsOrder g (0 :: ns)) (idom : List Int) (hD : DomOf g ns idom)
    (dq : Nat → Nat → Bool) (hdq : ∀ (h : Nat) (pr : List Nat), (predsL g (0 :: ns))[h]? = some pr → ∀ u ∈ pr, u < g.length ∧ ∃ k r, UpN idom (atF (0 :: ns) (0 :: ns).length) (atF (0 :: ns) (0 :: ns).length h) k u r ∧ dq h u = decide (r = h))
    (F : Nat → Int → Bool) (hW : ∀ h, h < g.length → ∃ k, WorkR (predsL g (0 :: ns)) k (headSt dq (predsL g (0 :: ns)) h).2.1 (headSt dq (predsL g (0 :: ns)) h).2.2 (F h)) :
    Calls Try.prog 26 #[.agg #[sv]] w fun e w' => ∃ ov, e = .returned ov ∧ OutMem w.heap.size w' ov (loopsUpto dq (predsL g (0 :: ns)) F g.length g.length) ∧ Below w.heap.size w w' := by
  obtain ⟨a, cap, rfl, hcap⟩ := h.form
  have hbel : Below w.heap.size w (w.alloc (.cells #[.slice a g.length cap] 24)) := (Below.refl _ _).alloc (Nat.le_refl _) _
  have cg : (w.alloc (.cells #[.slice a g.length cap] 24)).cell? ⟨w.heap.size, 0, none⟩ = some (.slice a g.length cap) := cell_of_one (new_at rfl)
  have HL := Lib.hid (hD.len hv.1)
  have HPL := Lib.hid (predsL_len g (0 :: ns))
  have HPB := Lib.hid (predsL_bound hr (ord := 0 :: ns) (by have := (hF.nodes hv).1; omega))
  obtain ⟨f, hf⟩ : ∃ f, f = atF (0 :: ns) (0 :: ns).length := ⟨_, rfl⟩
  obtain ⟨preds, hpreds⟩ : ∃ preds, preds = predsL g (0 :: ns) := ⟨_, rfl⟩
  rw [← hf, ← hpreds] at hdq
  rw [← hpreds] at hW HPL HPB ⊢
  have HFF := Lib.hid (And.intro hf hpreds)
  have HDQ := Lib.hid hdq
  have HW := Lib.hid hW
  have HV := Lib.hid hv
  have HR := Lib.hid hr
  have HF := Lib.hid hF
  have HD := Lib.hid hD
  have hgl := hv.1
  clear hv hr hF hD hf hpreds hdq hW
  refine (callsIn_wide (n := 100)).1 (callsIn_of_wp_marks Try.func26 rfl trivial ?_ rfl)
  simp only [Try.ntmps26, List.size_toArray, List.length_cons, List.length_nil, Nat.reduceAdd, Nat.reduceSub, Array.replicate_succ, Array.replicate_zero, List.push_toArray, List.append_toArray, List.nil_append, List.cons_append]
  refine wpIn_wide.2 ?_
  have hrest : ∀ (w2 : World) (bv : Nat), w.heap.size < w2.heap.size → VRead w2 w2.heap.size bv (0 :: ns) f preds → Calls Try.prog 40 #[.pointer (some ⟨bv, 0, none⟩), .int .i64 (g.length : Int)] (w2.alloc (.cells #[.pointer (some ⟨bv, 0, none⟩)] 59)) fun e w3 =>
      ∃ b, e = .returned (.slice (some ⟨b, 0, none⟩) g.length g.length) ∧ w3.heap[b]? = some (.cells (idom.map (Value.int .i64)).toArray 3 (0, 0)) ∧ Below (w2.heap.size + 1) (w2.alloc (.cells #[.pointer (some ⟨bv, 0, none⟩)] 59)) w3 := by
    intro w2 bv _ hvr
    have h1 : VRead (w2.alloc (.cells #[.pointer (some ⟨bv, 0, none⟩)] 59)) w2.heap.size bv (0 :: ns) f preds := hvr.below ((Below.refl _ _).alloc (Nat.le_refl _) _)
    rw [HFF.out.1, HFF.out.2] at h1
    refine (dominators_of _ _ bv g HV.out hn HR.out ns HF.out idom HD.out (by simp) h1).mono ?_
    rintro e w3 ⟨b, rfl, _, hrow, hb⟩
    exact ⟨b, rfl, hrow, hb.mono (by simp)⟩
  go_wp2_with (first
    | (go_at_call 18; go_must (refine (flow_valid_nat _ _ g B (by simp; omega) (h.below (hbel.mono hB)) HV.out hn HR.out).mono ?_; rintro e w1 ⟨rfl, hb1⟩; have hbw1 := hbel.trans (hb1.mono (by simp)); have cg1 := (hb1.cell (p := ⟨w.heap.size, 0, none⟩) (by simp)).trans cg; clear cg))
    | (go_at_call 39; go_must (refine (view_any _ _ g B (by have := hbw1.size; omega) (h.below (hbw1.mono hB)) HV.out hn HR.out (0 :: ns) HF.out).mono ?_; rintro e w2 ⟨bv, rfl, hbv, hvr, hb2⟩; have hbw2 := hbw1.trans (hb2.mono hbw1.size); have hsz1 : w.heap.size < w1.heap.size := cellLt cg1; have cg2 := (hb2.cell (p := ⟨w.heap.size, 0, none⟩) hsz1).trans cg1; have hsz2 : w.heap.size < w2.heap.size := cellLt cg2; rw [← HFF.out.1, ← HFF.out.2] at hvr; have HVR := Lib.hid hvr; clear cg1 hvr hb1 hbel hb2 hbw1))
    | (go_at_call 40; go_must (refine (hrest w2 bv hsz2 HVR.out).mono ?_; rintro e w3 ⟨b, rfl, hrow, hb3⟩; have hst := lstat_start (n := g.length) hsz2 cg2 HVR.out hb3 hrow; have hbw3 := Lib.hid (hbw2.trans (((Below.refl _ w2).alloc (Nat.le_refl _) (.cells #[.pointer (some ⟨bv, 0, none⟩)] 59)).trans (hb3.mono (by omega)) |>.mono hbw2.size)); have cg3 := hst.cg; have HST := Lib.hid hst; clear hst hb3 hrow cg2 hbw2 hrest)))
  have hsz3 : (w3.alloc (.cells #[.slice (some ⟨b, 0, none⟩) g.length g.length] 29)).heap.size = w3.heap.size + 1 := by simp
  have hbW3 := Lib.hid (hbw3.out.alloc (o := .cells #[.slice (some ⟨b, 0, none⟩) g.length g.length] 29) hbw3.out.size)
  generalize w3.alloc (.cells #[.slice (some ⟨b, 0, none⟩) g.length g.length] 29) = W3 at HST hsz3 hbW3 cg3 ⊢
  refine wp_loop_ghost (LoopI g.length w.heap.size w.heap.size w2.heap.size w3.heap.size (w3.heap.size + 1) a cap W3 dq preds F) g.length ?_ ?_
  · exact LoopI.mk (i := 0) rfl ⟨[], rfl, List.nodup_nil, by simp⟩ (Below.refl _ _) (OutMem.nil _ _)
  clear cg3
  rintro j a0 W ⟨i, ov, ds, u, rfl, hji, hM, hbW, hout⟩
  have hst := HST.out.below hbW
  have cg := hst.cg
  have HS := Lib.hid hst
  have HM := Lib.hid hM
  have HB := Lib.hid hbW
  have HO := Lib.hid hout
  have hWs : w3.heap.size + 1 ≤ W.heap.size := by have := hbW.size; omega
  clear hst hM hbW hout
  by_cases hlt : (i : Int) < g.length
  · have cv := HS.out.cv
    have hmm := @run_makeMap Try.prog
    have hmade := MapIB.made (W.alloc (.cells #[.int .i64 (i : Int)] 3))
    rw [show (W.alloc (.cells #[.int .i64 (i : Int)] 3)).heap.size = W.heap.size + 1 by simp] at hmade
    obtain ⟨w4, hins, hm4, hg4⟩ := insert_ib hmade (by omega) (i : Int) true (by omega)
    have hLM := loopMem_start hm4 hg4
    have hst' := HS.out.below (hLM.hbel.mono hWs)
    have cv' := hst'.cv
    have ch' := cell_of_one hLM.hh
    have HLM := Lib.hid hLM
    have HS' := Lib.hid hst'
    clear hLM hst'
    go_wp2_with (go_at_call 42; refine (before_any _ _ _).mono ?_; rintro e w5 ⟨rfl, rfl⟩)
    have hgi : i < g.length := by omega
    obtain ⟨pr, hpr⟩ : ∃ pr, preds[i]? = some pr := ⟨_, List.getElem?_eq_getElem (by rw [HPL.out]; exact hgi)⟩
    have hLM6 := (HLM.out.alloc (.cells #[.pointer (some ⟨bv, 0, none⟩)] 59)).alloc (.cells #[.int .i64 (i : Int)] 3)
    have hsz5 : ((((w4.alloc (.cells #[.map (some (W.heap.size + 1))] 62)).alloc (.cells #[.slice none 0 0] 29)).alloc (.cells #[.func (.func 41) #[] #[.pointer (some ⟨w4.heap.size, 0, none⟩), .pointer (some ⟨w4.heap.size + 1, 0, none⟩)]] 55)).alloc (.cells #[.bool false] 4)).heap.size = w4.heap.size + 4 := by simp
    generalize (((w4.alloc (.cells #[.map (some (W.heap.size + 1))] 62)).alloc (.cells #[.slice none 0 0] 29)).alloc (.cells #[.func (.func 41) #[] #[.pointer (some ⟨w4.heap.size, 0, none⟩), .pointer (some ⟨w4.heap.size + 1, 0, none⟩)]] 55)).alloc (.cells #[.bool false] 4) = W5 at hLM6 hsz5 HS' HLM cv' ch' ⊢
    obtain ⟨bp, op, len, cap', ar, capr, hit6, hbp, har⟩ := itRead_of HS.out.hvr (hLM6.hbel.mono hWs) hpr (Bv := w4.heap.size + 1 + 1 + 1 + 1) (Bn := w4.heap.size + 1 + 1 + 1 + 1 + 1) (cell_of_one (alloc_blk (new_at hsz5))) (cell_of_one (new_at (by simp [hsz5])))
    have hsz6 : ((W5.alloc (.cells #[.pointer (some ⟨bv, 0, none⟩)] 59)).alloc (.cells #[.int .i64 (i : Int)] 3)).heap.size = w4.heap.size + 6 := by simp [hsz5]
    generalize (W5.alloc (.cells #[.pointer (some ⟨bv, 0, none⟩)] 59)).alloc (.cells #[.int .i64 (i : Int)] 3) = W6 at hLM6 hsz6 hit6 ⊢
    have hbvS := HS.out.hvr
    have hbvC : bv < w3.heap.size + 1 := by obtain ⟨_, _, _, _, _, _, _, _, _, _, _, hl⟩ := hbvS; exact hl
    have hlt4 : W.heap.size + 2 ≤ w4.heap.size := hLM6.lt
    clear hbvS cv' ch' cg cv hmm hins hmade hm4 hg4
    have HPR := Lib.hid hpr
    have HIT := Lib.hid hit6
    have HLM6 := Lib.hid hLM6
    clear hpr hit6 hLM6 HLM HS'
    refine (wpIn_wide (n := 100)).1 (wpIn_rangeFunc_ownG rfl (by decide) (gf := 47) (lb := #[.pointer (some ⟨w4.heap.size + 1 + 1 + 1 + 1, 0, none⟩), .pointer (some ⟨w4.heap.size + 1 + 1 + 1 + 1 + 1, 0, none⟩)]) rfl trivial (enters_of Try.func47 (by kernel_rfl) rfl)
      (before_stops 99 (by decide) (w4.heap.size + 1 + 1 + 1 + 1) (w4.heap.size + 1 + 1 + 1 + 1 + 1) i pr bv bp op len cap' ar capr (HPB.out pr (List.mem_of_getElem? HPR.out)) W6 HIT.out) (fun h k x => k (h x)) (fun V l o o' hl ho hc _ h => h.keptObj (grownBy_putObj' V l o') (fun r e => by cases e; exact ⟨o, ho, hc⟩)) (Below.refl _ _) (fun _ => rfl)
      (fun pre V => ∃ nm wv, LoopMem W W.heap.size w4.heap.size V nm ((pre.map (fun x => x.1)).foldl (step1 dq i) (head0 i)).2.1 wv ((pre.map (fun x => x.1)).foldl (step1 dq i) (head0 i)).2.2 i ((pre.map (fun x => x.1)).foldl (step1 dq i) (head0 i)).1 ∧ WI g.length nm ((pre.map (fun x => x.1)).foldl (step1 dq i) (head0 i)).2.1 ((pre.map (fun x => x.1)).foldl (step1 dq i) (head0 i)).2.2 ∧ wv.ownBlock ≠ some (w4.heap.size + 1 + 1 + 1 + 1 + 1) ∧ wv.ownBlock ≠ some (w4.heap.size + 1 + 1 + 1 + 1) ∧ W6.heap.size ≤ V.heap.size) (fun _ _ _ => False)
      ?own (fun _ _ _ _ _ hs _ _ => hs) ⟨1, _, HLM6.out, wi_start hgi, by simp [Value.ownBlock], by simp [Value.ownBlock], Nat.le_refl _⟩ ?a1 ?assign ?body ?done ?stop)
    case own =>
      rintro s X Y row ⟨nm, wv, hl, hwi, h1, h2, h3⟩ hg hr
      exact ⟨nm, wv, hl.own hg hr (by omega), hwi, h1, h2, Nat.le_trans h3 hg.size⟩
    case assign =>
      intro l x W K hK
      gi_wp2
      exact hK
    case body =>
      rintro l pre ⟨p, hp⟩ V ⟨nm, wv, hl, hwi, h1, h2, h3⟩ hlen
      have hmap : ((pre ++ [(⟨p, hp⟩ : {p // p ∈ pr})]).map (fun x => x.1)).foldl (step1 dq i) (head0 i) = step1 dq i ((pre.map (fun x => x.1)).foldl (step1 dq i) (head0 i)) p := by rw [List.map_append, List.foldl_append]; rfl
      generalize hst0 : (pre.map (fun x => x.1)).foldl (step1 dq i) (head0 i) = st at hl hwi hmap
      obtain ⟨bk, fs, wk⟩ := st
      dsimp only at hl hwi
      obtain ⟨hpg, kk, r, hU, hdqr⟩ := HDQ.out i pr HPR.out p hp
      have hVst := HS.out.below (hl.hbel.mono hWs)
      have hdc := lstat_dom hVst hn HL.out hgi hpg hU
      rw [← hdqr] at hdc
      have cv := hVst.cv
      have ci := hVst.ci
      have ch := cell_of_one hl.hh
      have ca := fun m : Nat => cell_of_one (set_blk (blk_drewN (k := m) hl.ha) (a := ⟨w4.heap.size + 1 + 1 + 1, 0, none⟩) (u := .bool true) (by simp))
      have cb := cell_of_one hl.hb
      have fb := free_of_one hl.hb
      have HMAP := Lib.hid hmap
      have HLV := Lib.hid hl
      have HWI := Lib.hid hwi
      have HH := Lib.hid (And.intro h1 (And.intro h2 h3))
      have HDC := Lib.hid hdc
      clear hmap hst0 hl hwi h1 h2 h3 hdc hVst hU
      have hgm : ∀ m, V.grownBy (V.drewN m) none := fun m => ⟨rfl, rfl, rfl, Nat.le_refl _, fun _ _ _ => rfl⟩
      cases hq : dq i p with
      | false =>
        rw [hq] at HDC
        gi_wp2
        refine ⟨trivial, CallsIn.inRound l (callsIn_wide.2 (HDC.out.mono ?_))⟩
        rintro e V2 ⟨rfl, m, rfl⟩
        gi_wp2
        refine (show _ ∧ _ ∧ _ from ⟨(keeps0_drewN V m).from0 _, fun h => h.keptObj (hgm m) (fun r e => by cases e), ?_⟩)
        show ∃ nm wv, _
        rw [HMAP.out, show step1 dq i (bk, fs, wk) p = (bk, fs, wk) by simp [step1, hq]]
        exact ⟨nm, wv, HLV.out.drewN m, HWI.out, HH.out.1, HH.out.2.1, HH.out.2.2⟩
      | true =>
        rw [hq] at HDC
        gi_wp2
        refine ⟨trivial, CallsIn.inRound l (callsIn_wide.2 (HDC.out.mono ?_))⟩
        rintro e V2 ⟨rfl, m, rfl⟩
        gi_wp2
        have hLb := (HLV.out.drewN m).back true
        refine ⟨trivial, CallsIn.inRound l (callsIn_wide.2 ((add_any W _ W.heap.size w4.heap.size g.length nm hn fs wv wk i true hLb HWI.out p hpg).mono ?_))⟩
        rintro e V3 ⟨rfl, nm', wv', hl3, hwi3, hT⟩
        gi_wp2
        have hkb : KeepsFrom 0 V ((V.drewN m).setCell ⟨w4.heap.size + 3, 0, none⟩ (.bool true)) := (keeps0_drewN V m).trans (keeps0_set (W := V.drewN m) HLV.out.hb _)
        have hsz := hT.size
        simp at hsz
        have hltS : w3.heap.size + 1 ≤ W.heap.size := hWs
        refine (show _ ∧ _ ∧ _ from ⟨(hkb.from0 _).trans (hT.keeps (by omega) (by omega) hLb.ho), fun h => ?_, ?_⟩)
        · refine hT.itRead ((h.keptObj (hgm m) (fun r e => by cases e)).set _ (by omega) (by omega) (by omega) (by omega) (fun j y hj a e => by have := har j y hj a e; omega)) ?_ (w3.heap.size + 1) ?_ hbvC hbp har
          · rintro k (rfl | rfl)
            · exact ⟨by omega, by omega, HH.out.2.1⟩
            · exact ⟨by omega, by omega, HH.out.1⟩
          · intro k hk
            exact ⟨by omega, by omega, fun e => by have := (hLb.ho.lt k e).1; omega⟩
        · show ∃ nm wv, _
          rw [HMAP.out, show step1 dq i (bk, fs, wk) p = (true, addF (fs, wk) p) by simp [step1, hq]]
          refine ⟨nm', wv', hl3, hwi3, fun e => ?_, fun e => ?_, ?_⟩
          · have := HH.out
            rcases hT.own _ e with h | h
            · exact this.1 h
            · simp at h; omega
          · have := HH.out
            rcases hT.own _ e with h | h
            · exact this.2.1 h
            · simp at h; omega
          · have := HH.out.2.2; omega
    case done =>
      rintro D xs V hD hxs ⟨nm, wv, hl, hwi, h1, h2, h3⟩ hDD
      have hst0 : (xs.map (fun x => x.1)).foldl (step1 dq i) (head0 i) = headSt dq preds i := by
        unfold headSt; rw [hxs, List.getD_eq_getElem?_getD, HPR.out]; rfl
      rw [hst0] at hl hwi
      obtain ⟨kw, hwork⟩ := HW.out i hgi
      have HM2 := Lib.hid (HM.out.push' hl.hbel (Nat.le_refl _) (by omega) (by have := HB.out.size; have := hbW3.out.size; omega) hDD)
      have HWK := Lib.hid hwork
      have HLV := Lib.hid hl
      have HWI := Lib.hid hwi
      clear hst0 hl hwi h1 h2 h3 hDD hwork hxs HIT HLM6
      go_wp2
      refine wp_loop_ghost (WorkI g.length w.heap.size w.heap.size w2.heap.size w3.heap.size W.heap.size w4.heap.size a cap i (headSt dq preds i).1 ov W preds (F i)) kw ?_ ?_
      · exact WorkI.mk HM2.out HLV.out HWI.out HWK.out
      clear HM2 HLV HWI HWK hlt hsz5 hsz6 har hbp
      rintro k a0 V ⟨ds, u, rfl, hM, nm, fs, wv, work, hl, hwi, hwork⟩
      cases k with
      | zero =>
        obtain ⟨rfl, rfl⟩ := hwork
        obtain ⟨a0, c0, rfl⟩ := ownsRow_form hl.ho
        have cw := cell_of_one hl.hw
        simp only [List.length_nil] at cw
        have cb := cell_of_one hl.hb
        have HLV := Lib.hid hl
        have HM2 := Lib.hid hM
        clear hl hwi hM
        cases hbk : (headSt dq preds i).1 with
        | false =>
          rw [hbk] at cb HLV
          go_wp2
          refine ⟨j - 1, by omega, ?_⟩
          rw [show (i : Int) + 1 = ((i + 1 : Nat) : Int) by omega]
          refine LoopI.mk (by omega) HM2.out (HB.out.trans (HLV.out.hbel.mono hWs)) ?_
          rw [loopsUpto_succ, hbk]
          simpa using HO.out.below HLV.out.hbel (Nat.le_refl _)
        | true =>
          rw [hbk] at cb HLV
          have hst := HS.out.below (HLV.out.hbel.mono hWs)
          have ch := cell_of_one HLV.out.hh
          have hsV : w.heap.size < V.heap.size := by have := cellLt hst.cg; simpa using this
          have hcg : ∀ o : Obj, (V.alloc o).cell? ⟨w.heap.size, 0, none⟩ = some (.slice a g.length cap) := fun o => (World.cell?_alloc_lt _ _ _ hsV).trans hst.cg
          clear hst
          have hsw := lt_of_block HLV.out.hb
          obtain ⟨ii, hii, hzi0, hzi1, hzi2⟩ := info_parts Try.info_int
          go_wp2
          go_loopw [75] (fun iv wr => ∃ m : Nat, m ≤ g.length ∧ iv = .int .i64 (m : Int) ∧ ∃ bv, Hid (BodyMem V wr V.heap.size i bv (bodyUp (F i) m))) (fun iv _ => g.length - (intOf iv).toNat)
          case atStart => exact ⟨0, Nat.zero_le _, rfl, _, BodyMem.start V i⟩
          case round =>
            obtain ⟨m, hm, rfl, bv1, HBD⟩ := hrel
            by_cases hmlt : (m : Int) < g.length
            · have ct : wr.cell? ⟨w4.heap.size, 0, none⟩ = some (.map (some (W.heap.size + 1))) := cell_of_one (below_blk HBD.out.hb HLV.out.hi (by omega))
              have hmap : MapIB wr (W.heap.size + 1) nm (F i) := HLV.out.hm.same (HBD.out.hb.block _ HLV.out.hm.lt)
              have look := hmap.look (x := (m : Int)) (by omega)
              have hbl := bodyUp_len (F i) m
              have hsu := bodyUp_succ (F i) m
              have HSU := Lib.hid hsu
              clear hmap hsu
              cases hfm : F i (m : Int) with
              | false =>
                rw [hfm] at look HSU
                go_wp2
                go_roundw
                case rel => exact ⟨m + 1, by omega, by go_num, bv1, by rw [HSU.out]; simpa using HBD⟩
                case measure => simp [intOf]; omega
              | true =>
                rw [hfm] at look HSU
                obtain ⟨ab, cb2, rfl⟩ := ownsRow_form HBD.out.ho
                have cq : wr.cell? ⟨V.heap.size, 1, none⟩ = some (.slice ab (bodyUp (F i) m).length cb2) := cell_of_blk HBD.out.hq (by simp)
                go_wp2_with (at_builtin; go_must (refine wpList_append_lies _ rfl (.tmp 82) (.tmp 84) 29 rfl (V.heap.size + 1) 3 ii (.int .i64 0) 1 8 Try.underlying29 hii hzi0 hzi1 hzi2 rfl (by decide) _ (bodyUp (F i) m).length ((bodyUp (F i) m).map encNat) rfl (HBD.out.ho.alloc _) ⟨wr.heap.size, 0, none⟩ 1 1 [.int .i64 (m : Int)] rfl rfl (World.news_of_block (cs := #[.int .i64 (m : Int)]) (new_at (by simp))) (by simp [Value.oneCell']) (by decide) (by unfold maxLen; omega) (by omega) (by have := lt_of_block HBD.out.hq; simp; omega) (wr.heap.size + 1) (by simp) ?_; intro gq capq w5 hown5 hgrow hat hlt5; have c5 := cell_of_blk (i := 1) (v := .slice ab (bodyUp (F i) m).length cb2) (grown_blk hgrow (alloc_blk HBD.out.hq) (fun e => by have := (HBD.out.ho.lt _ e).1; omega)) (by simp); have f5 := free_of_blk (i := 1) (grown_blk hgrow (alloc_blk HBD.out.hq) (fun e => by have := (HBD.out.ho.lt _ e).1; omega)); have HO5 := Lib.hid hown5; clear hown5))
                go_roundw
                case rel => exact ⟨m + 1, by omega, by go_num, _, by rw [HSU.out]; exact HBD.out.push _ hgrow (by simpa [encNat] using HO5.out)⟩
                case measure => simp [intOf]; omega
            · obtain rfl : m = g.length := by omega
              obtain ⟨ab, cb2, rfl⟩ := ownsRow_form HBD.out.ho
              have cq0 : wr.cell? ⟨V.heap.size, 0, none⟩ = some (.int .i64 (i : Int)) := cell_of_blk HBD.out.hq (by simp)
              have cq1 : wr.cell? ⟨V.heap.size, 1, none⟩ = some (.slice ab (bodyUp (F i) g.length).length cb2) := cell_of_blk HBD.out.hq (by simp)
              obtain ⟨ic, hic, hzc0, hzc1, hzc2⟩ := info_parts Try.info_cycle
              have hbV : Below W.heap.size W wr := HLV.out.hbel.trans (HBD.out.hb.mono HLV.out.hbel.size)
              obtain ⟨bvs, hl1, hl2, hl3⟩ := HO.out.below hbV (Nat.le_refl _)
              obtain ⟨ao, co, rfl⟩ := ownsRow_form hl2
              have hlen := loopsUpto_len dq preds F g.length i
              have HL2 := Lib.hid hl2
              have HL13 := Lib.hid (And.intro hl1 hl3)
              have HBV := Lib.hid hbV
              clear hl1 hl2 hl3 hbV
              go_wp2_with (at_builtin; go_must (refine wpList_append_lies _ rfl (.tmp 88) (.tmp 90) 32 rfl (w3.heap.size + 1) 44 ic _ 2 32 Try.underlying32 hic hzc0 hzc1 hzc2 rfl (by decide) _ (loopsUpto dq preds F g.length i).length (flatC (loopsUpto dq preds F g.length i) bvs) rfl (HL2.out.alloc _) ⟨wr.heap.size, 0, none⟩ 1 1 [.int .i64 (i : Int), .slice ab (bodyUp (F i) g.length).length cb2] rfl rfl (World.news_of_block (cs := #[.int .i64 (i : Int), .slice ab (bodyUp (F i) g.length).length cb2]) (new_at (by simp))) (by simp [Value.oneCell']) (by decide) (by unfold maxLen; omega) (by omega) (by have := HBV.out.size; simp; omega) (wr.heap.size + 1) (by simp) ?_; intro gq capq w6 hown6 hgrow6 hat6 hlt6; have HO6 := Lib.hid (And.intro hown6 hgrow6); clear hown6 hgrow6))
              refine ⟨j - 1, by omega, ?_⟩
              rw [show (i : Int) + 1 = ((i + 1 : Nat) : Int) by omega]
              have hbs := HBV.out.size
              have hbs2 := HBD.out.hb.size
              have hown := HL2.out.alloc (.cells #[.int .i64 (i : Int), .slice ab (bodyUp (F i) g.length).length cb2] 44)
              refine LoopI.mk (by omega) (((HM2.out.below HBD.out.hb (Nat.le_refl _)).keeps (keeps0_alloc _ _)).keeps (keeps0_row hown HO6.out.2)) ?_ ?_
              · exact ((HB.out.trans (HBV.out.mono hWs)).alloc (by omega) _).grown HO6.out.2 (by simp; omega) (fun k e => by have := (hown.lt k e).1; omega)
              · rw [loopsUpto_succ, hbk]
                have := OutMem.push (body := bodyUp (F i) g.length) (i := i) HL13.out.1 hown (fun k c bv hk hb => (HL13.out.2 k c bv hk hb).alloc _) HO6.out.2 (ownsRow_mono (HBD.out.ho.alloc _) (by omega)) HO6.out.1
                exact this
      | succ k =>
        obtain ⟨st, x, pr2, rfl, hpr2, hwork⟩ := hwork
        have ho := hl.ho
        simp only [List.length_append, List.length_cons, List.length_nil, Nat.zero_add] at ho
        obtain ⟨gw, cpw, rfl, hgw, hgl⟩ := ho.form (by omega)
        have hcp := (ownsRow_le ho).1
        have hcp2 := (ownsRow_le ho).2
        have hcw := hl.hw
        have cw := cell_of_one hl.hw
        have fw := free_of_one hl.hw
        have ce : V.cell? ⟨gw, st.length, none⟩ = some (.int .i64 (x : Int)) := (ho.cellAt st.length (by omega)).trans (by simp [encNat])
        have hle := hwi.le
        simp only [List.length_append, List.length_cons, List.length_nil] at hle
        have hxg := hwi.pop.2
        have hLp := hl.pop
        have hwi2 := hwi.pop.1
        have cv := (HS.out.below (hLp.hbel.mono hWs)).cv
        have HLP := Lib.hid hLp
        have HWI := Lib.hid hwi2
        have HWK := Lib.hid hwork
        have HPR2 := Lib.hid hpr2
        have HM2 := Lib.hid hM
        have hsv := lt_of_block hl.hb
        clear hl hwi hLp hwi2 hwork hpr2 hM ho
        go_wp2_with (go_at_call 42; refine (before_any _ _ _).mono ?_; rintro e w5 ⟨rfl, rfl⟩)
        have hszV : (V.setCell ⟨w4.heap.size + 1, 0, none⟩ (.slice (some ⟨gw, 0, none⟩) st.length cpw)).heap.size = V.heap.size := by simp
        have hL7 := (HLP.out.alloc (.cells #[.pointer (some ⟨bv, 0, none⟩)] 59)).alloc (.cells #[.int .i64 (x : Int)] 3)
        have hHM7 := (HM2.out.keeps (keeps0_set (i := 0) hcw (.slice (some ⟨gw, 0, none⟩) st.length cpw)) |>.keeps (keeps0_alloc _ (.cells #[.pointer (some ⟨bv, 0, none⟩)] 59))).keeps (keeps0_alloc _ (.cells #[.int .i64 (x : Int)] 3))
        obtain ⟨bp2, op2, len2, cap2, ar2, capr2, hit7, hbp2, har2⟩ := itRead_of HS.out.hvr (hL7.hbel.mono hWs) HPR2.out (Bv := V.heap.size) (Bn := V.heap.size + 1) (cell_of_one (alloc_blk (new_at hszV))) (cell_of_one (new_at (by simp)))
        have hsz7 : (((V.setCell ⟨w4.heap.size + 1, 0, none⟩ (.slice (some ⟨gw, 0, none⟩) st.length cpw)).alloc (.cells #[.pointer (some ⟨bv, 0, none⟩)] 59)).alloc (.cells #[.int .i64 (x : Int)] 3)).heap.size = V.heap.size + 2 := by simp
        generalize ((V.setCell ⟨w4.heap.size + 1, 0, none⟩ (.slice (some ⟨gw, 0, none⟩) st.length cpw)).alloc (.cells #[.pointer (some ⟨bv, 0, none⟩)] 59)).alloc (.cells #[.int .i64 (x : Int)] 3) = W7 at hL7 hsz7 hit7 hHM7 ⊢
        have HIT := Lib.hid hit7
        have HL7 := Lib.hid hL7
        have HM7 := Lib.hid hHM7
        have hrowlt : ∀ k, (Value.slice (some ⟨gw, 0, none⟩) st.length cpw).ownBlock = some k → k < V.heap.size := fun k e => by simp only [Value.ownBlock, Option.some.injEq] at e; subst e; exact hgl
        clear hit7 hL7 hHM7 HLP cw fw ce cv hcw
        refine (wpIn_wide (n := 100)).1 (wpIn_rangeFunc_ownG rfl (by decide) (gf := 47) (lb := #[.pointer (some ⟨V.heap.size, 0, none⟩), .pointer (some ⟨V.heap.size + 1, 0, none⟩)]) rfl trivial (enters_of Try.func47 (by kernel_rfl) rfl)
          (before_stops 99 (by decide) V.heap.size (V.heap.size + 1) x pr2 bv bp2 op2 len2 cap2 ar2 capr2 (HPB.out pr2 (List.mem_of_getElem? HPR2.out)) W7 HIT.out) (fun h k x => k (h x)) (fun V l o o' hl ho hc _ h => h.keptObj (grownBy_putObj' V l o') (fun r e => by cases e; exact ⟨o, ho, hc⟩)) (Below.refl _ _) (fun _ => rfl)
          (fun pre X => ∃ nm wv, LoopMem W W.heap.size w4.heap.size X nm ((pre.map (fun x => x.1)).foldl addF (fs, st)).1 wv ((pre.map (fun x => x.1)).foldl addF (fs, st)).2 i (headSt dq preds i).1 ∧ WI g.length nm ((pre.map (fun x => x.1)).foldl addF (fs, st)).1 ((pre.map (fun x => x.1)).foldl addF (fs, st)).2 ∧ wv.ownBlock ≠ some V.heap.size ∧ wv.ownBlock ≠ some (V.heap.size + 1) ∧ W7.heap.size ≤ X.heap.size ∧ KeepsMap (W.heap.size + 1) W7 X) (fun _ _ _ => False)
          ?own2 (fun _ _ _ _ _ hs _ _ => hs) ⟨nm, _, HL7.out, HWI.out, fun e => by have := hrowlt _ e; omega, fun e => by have := hrowlt _ e; omega, Nat.le_refl _, KeepsMap.refl _ _⟩ ?a12 ?assign2 ?body2 ?done2 ?stop2)
        case own2 =>
          rintro s X Y row ⟨nm, wv, hl, hwi, h1, h2, h3, h4⟩ hg hr
          exact ⟨nm, wv, hl.own hg hr (by omega), hwi, h1, h2, Nat.le_trans h3 hg.size, h4.own hg (fun r e => (hr r e).1) (Nat.le_refl _)⟩
        case assign2 =>
          intro l x W K hK
          gi_wp2
          exact hK
        case body2 =>
          rintro l pre ⟨p, hp⟩ X ⟨nm2, wv2, hl, hwi, h1, h2, h3, h4⟩ hlen
          have hmap : ((pre ++ [(⟨p, hp⟩ : {p // p ∈ pr2})]).map (fun x => x.1)).foldl addF (fs, st) = addF ((pre.map (fun x => x.1)).foldl addF (fs, st)) p := by rw [List.map_append, List.foldl_append]; rfl
          generalize (pre.map (fun x => x.1)).foldl addF (fs, st) = st2 at hl hwi hmap
          obtain ⟨fs2, wk2⟩ := st2
          dsimp only at hl hwi
          have hpg := (HDQ.out x pr2 HPR2.out p hp).1
          have ca := cell_of_one hl.ha
          have HMAP := Lib.hid hmap
          have HLV := Lib.hid hl
          have HWI2 := Lib.hid hwi
          have HH := Lib.hid (And.intro h1 (And.intro h2 (And.intro h3 h4)))
          clear hmap hl hwi h1 h2 h3 h4
          gi_wp2
          refine ⟨trivial, CallsIn.inRound l (callsIn_wide.2 ((add_any W _ W.heap.size w4.heap.size g.length nm2 hn fs2 wv2 wk2 i _ HLV.out HWI2.out p hpg).mono ?_))⟩
          rintro e V3 ⟨rfl, nm', wv', hl3, hwi3, hT⟩
          gi_wp2
          have hsz := hT.size
          have hH := HH.out
          refine (show _ ∧ _ ∧ _ from ⟨hT.keeps (by omega) (by omega) HLV.out.ho, fun h => ?_, ?_⟩)
          · refine hT.itRead h ?_ (w3.heap.size + 1) ?_ hbvC hbp2 har2
            · rintro k (rfl | rfl)
              · exact ⟨by omega, by omega, hH.1⟩
              · exact ⟨by omega, by omega, hH.2.1⟩
            · intro k hk
              exact ⟨by omega, by omega, fun e => by have := (HLV.out.ho.lt k e).1; omega⟩
          · show ∃ nm wv, _
            rw [HMAP.out]
            refine ⟨nm', wv', hl3, hwi3, fun e => ?_, fun e => ?_, by omega, hH.2.2.2.trans (hT.keepsMap HLV.out.hw HLV.out.ho)⟩
            · rcases hT.own _ e with h | h
              · exact hH.1 h
              · omega
            · rcases hT.own _ e with h | h
              · exact hH.2.1 h
              · omega
        case done2 =>
          rintro D xs X hD hxs ⟨nm2, wv2, hl, hwi, h1, h2, h3, h4⟩ hDD
          rw [hxs] at hl hwi
          have HX := Lib.hid (And.intro hl hwi)
          have hmx := HM7.out.keepsMap h4 HL7.out.hm
          have HMX := Lib.hid (hmx.cons (HM7.out.ne hD) (by have := hbW3.out.size; omega) hDD)
          clear hl hwi h1 h2 h3 h4 hDD hmx
          go_wp2
          refine ⟨k, by omega, ?_⟩
          exact WorkI.mk HMX.out HX.out.1 HX.out.2 HWK.out
        case stop2 =>
          rintro D c pre V _ _ h _
          exact h.elim
    case stop =>
      rintro D c pre V _ _ h _
      exact h.elim
  · go_wp2
    obtain rfl : i = g.length := by omega
    obtain ⟨Ds, rfl, hnd, hds⟩ := HM.out
    have hb3 := hbW3.out.size
    refine leaves_marks w.heap.size (fun X => OutMem w.heap.size X ov (loopsUpto dq preds F g.length g.length) ∧ Below w.heap.size w X) ?_ ?_ Ds W hnd hds ⟨HO.out.mono (by omega), hbW3.out.trans (HB.out.mono (by omega))⟩
    · rintro X D hB hd ⟨h1, h2⟩
      exact ⟨h1.own (grownBy_putObj' X D _) (by rintro r e; cases e; exact ⟨_, hd, rfl⟩), h2.grown (grownBy_putObj' X D _) h2.size (by rintro k e; cases e; exact hB)⟩
    · rintro X ⟨h1, h2⟩
      exact ⟨_, results_tmp rfl _ _ _, ov, rfl, h1, h2⟩
end Go.Proofs.Ytpfinkcnklkclaa
