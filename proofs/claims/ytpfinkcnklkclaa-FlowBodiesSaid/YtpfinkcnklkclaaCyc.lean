/-
  The walk of the reference's Cycles: two lists of loops are compared.
-/
import Derived.Test.YtpfinkcnklkclaaRead
import Derived.Test.YtpfinkcnklkclaaLoop0
set_option linter.unusedVariables false
set_option linter.unusedSimpArgs false
namespace Go.Proofs.Ytpfinkcnklkclaa
open Go.RowKit

/-- A slice of loops, read. -/
def CycOf (w : World) (B : Nat) (v : Value) (cs : List (Nat × List Nat)) : Prop :=
  ∃ (a : Option Addr) (cap : Nat), v = .slice a cs.length cap ∧ cs.length ≤ cap ∧ ∀ (k : Nat) (c : Nat × List Nat), cs[k]? = some c →
    ∃ b o bv, a = some ⟨b, o, none⟩ ∧ b < B ∧ w.cell? ⟨b, o + k * 2, none⟩ = some (.int .i64 (c.1 : Int)) ∧ w.cell? ⟨b, o + k * 2 + 1, none⟩ = some bv ∧ SliceOf encNat w B bv c.2
theorem CycOf.below {w w' : World} {B : Nat} {v : Value} {cs : List (Nat × List Nat)} (h : CycOf w B v cs) (hb : Below B w w') : CycOf w' B v cs := by
  obtain ⟨a, cap, rfl, hc, hx⟩ := h
  refine ⟨a, cap, rfl, hc, fun k c hk => ?_⟩
  obtain ⟨b, o, bv, h1, h2, h3, h4, h5⟩ := hx k c hk
  exact ⟨b, o, bv, h1, h2, (hb.cell (p := ⟨b, o + k * 2, none⟩) h2).trans h3, (hb.cell (p := ⟨b, o + k * 2 + 1, none⟩) h2).trans h4, h5.below hb⟩
theorem CycOf.mono {w : World} {B B' : Nat} {v : Value} {cs : List (Nat × List Nat)} (h : CycOf w B v cs) (hb : B ≤ B') : CycOf w B' v cs := by
  obtain ⟨a, cap, rfl, hc, hx⟩ := h
  refine ⟨a, cap, rfl, hc, fun k c hk => ?_⟩
  obtain ⟨b, o, bv, h1, h2, h3, h4, h5⟩ := hx k c hk
  exact ⟨b, o, bv, h1, by omega, h3, h4, h5.mono hb⟩
theorem flatC_get : ∀ {cs : List (Nat × List Nat)} {bvs : List Value} {k : Nat} {c : Nat × List Nat} {bv : Value}, cs[k]? = some c → bvs[k]? = some bv → (flatC cs bvs)[k * 2]? = some (.int .i64 (c.1 : Int)) ∧ (flatC cs bvs)[k * 2 + 1]? = some bv
  | [], _, k, c, bv, h, _ => by simp at h
  | d :: cs, [], k, c, bv, _, h => by simp at h
  | d :: cs, x :: bvs, 0, c, bv, h, h' => by simp at h h'; subst h; subst h'; simp [flatC]
  | d :: cs, x :: bvs, k + 1, c, bv, h, h' => by
    have := flatC_get (cs := cs) (bvs := bvs) (k := k) (by simpa using h) (by simpa using h')
    rw [show (k + 1) * 2 = k * 2 + 1 + 1 by omega]
    simpa [flatC] using this
theorem OutMem.cyc {S C : Nat} {w : World} {ov : Value} {cs : List (Nat × List Nat)} (h : OutMem S w ov cs) (hC : w.heap.size ≤ C) : CycOf w C ov cs := by
  obtain ⟨bvs, h1, h2, h3⟩ := h
  have hsub : ∀ {k : Nat} {c : Nat × List Nat}, cs[k]? = some c → ∃ bv, bvs[k]? = some bv ∧ SliceOf encNat w C bv c.2 := by
    intro k c hk
    have hl : k < bvs.length := by rw [h1]; exact (List.getElem?_eq_some_iff.1 hk).1
    exact ⟨_, List.getElem?_eq_getElem hl, sliceOf_own (h3 k c _ hk (List.getElem?_eq_getElem hl)) hC⟩
  have hfl : (flatC cs bvs).length = cs.length * 2 := by rw [flatC_length h1]; omega
  rcases h2.2 with ⟨rfl, h0⟩ | ⟨g, cap, cur, rfl, hg, hh, hle, hcm, hcs, htake⟩
  · exact ⟨none, 0, by rw [h0], by omega, fun k c hk => by rw [List.eq_nil_of_length_eq_zero h0] at hk; simp at hk⟩
  · refine ⟨_, cap, rfl, hle, fun k c hk => ?_⟩
    obtain ⟨bv, h4, h5⟩ := hsub hk
    obtain ⟨h6, h7⟩ := flatC_get hk h4
    have hkl := (List.getElem?_eq_some_iff.1 hk).1
    have hcell : ∀ j v, j < cs.length * 2 → (flatC cs bvs)[j]? = some v → w.cell? ⟨g, 0 + j, none⟩ = some v := by
      intro j v hj hv
      rw [← htake, List.getElem?_take] at hv
      rw [if_pos hj] at hv
      exact cell_of_blk hh (by rw [Nat.zero_add]; simpa [Array.getElem?_toList] using hv)
    exact ⟨g, 0, bv, rfl, by have := lt_of_block hh; omega, by simpa using hcell (k * 2) _ (by omega) h6, by simpa [Nat.add_assoc] using hcell (k * 2 + 1) _ (by omega) h7, h5⟩

theorem sliceInt {w : World} {B : Nat} {v : Value} {xs : List Nat} (h : SliceOf encNat w B v xs) : SliceOf encInt w B v (xs.map Int.ofNat) := (SliceOf.map (enc := encInt) (enc' := encNat) Int.ofNat (fun _ => rfl)).2 h
theorem ints_nat (w : World) (B B' : Nat) (u v : Value) (xs ys : List Nat) (hx : SliceOf encNat w B u xs) (hy : SliceOf encNat w B' v ys) (bx : xs.length ≤ 9223372036854775807) (by' : ys.length ≤ 9223372036854775807) :
    Calls Try.prog 20 #[u, v] w fun e w' => e = .returned (.bool (decide (xs = ys))) ∧ ∃ n, w' = w.drewN n := by
  have h := ints_any w B B' u v (xs.map Int.ofNat) (ys.map Int.ofNat) (sliceInt hx) (sliceInt hy) (by simpa using bx) (by simpa using by')
  have e : decide (xs.map Int.ofNat = ys.map Int.ofNat) = decide (xs = ys) := by
    rw [Bool.eq_iff_iff, decide_eq_true_eq, decide_eq_true_eq]
    constructor
    · intro h
      have h2 := congrArg (List.map Int.toNat) h
      rw [List.map_map, List.map_map, show Int.toNat ∘ Int.ofNat = id from rfl, List.map_id, List.map_id] at h2
      exact h2
    · rintro rfl; rfl
  rw [e] at h
  exact h

set_option maxRecDepth 100000 in
set_option maxHeartbeats 1600000 in
theorem cycles_any (w : World) (B B' : Nat) (u v : Value) (xs ys : List (Nat × List Nat)) (hx : CycOf w B u xs) (hy : CycOf w B' v ys) (bx : xs.length ≤ 2000000) (by' : ys.length ≤ 2000000)
    (hbx : ∀ c ∈ xs, c.2.length ≤ 2000000) (hby : ∀ c ∈ ys, c.2.length ≤ 2000000) :
    Calls Try.prog 25 #[u, v] w fun e w' => e = .returned (.bool (decide (xs = ys))) ∧ ∃ n, w' = w.drewN n := by
  obtain ⟨a, ca, rfl, hca, ha⟩ := hx
  obtain ⟨b, cb, rfl, hcb, hb⟩ := hy
  by_cases hl : xs.length = ys.length
  · have hl1 : ((xs.length : Int) != (ys.length : Int)) = false := by simp [hl]
    have HL := Lib.hid hl; clear hl
    have HA := Lib.hid ha; have HB := Lib.hid hb; clear ha hb
    have HBX := Lib.hid hbx; have HBY := Lib.hid hby; clear hbx hby
    go_enter Try.func25, Try.ntmps25
    go_wp2
    go_loopw [5] (fun i wr => ∃ k : Nat, k ≤ xs.length ∧ i = .int .i64 k ∧ xs.take k = ys.take k ∧ ∃ n, wr = w.drewN n) (fun i _ => xs.length - (intOf i).toNat)
    case atStart => exact ⟨0, Nat.zero_le _, rfl, by simp, 0, rfl⟩
    case round =>
      obtain ⟨k, hk, rfl, heq, n, rfl⟩ := hrel
      have EQ := Lib.hid heq; clear heq
      by_cases hlt : k < xs.length
      · have hlt2 : k < ys.length := by have := HL.out; omega
        obtain ⟨x, hx⟩ : ∃ x, xs[k]? = some x := ⟨_, List.getElem?_eq_getElem hlt⟩
        obtain ⟨y, hy⟩ : ∃ y, ys[k]? = some y := ⟨_, List.getElem?_eq_getElem hlt2⟩
        obtain ⟨b1, o1, bv1, rfl, _, g1, g2, g3⟩ := HA.out k x hx
        obtain ⟨b2, o2, bv2, rfl, _, g4, g5, g6⟩ := HB.out k y hy
        have hc : ∀ n1 n2, Calls Try.prog 20 #[bv1, bv2] (w.drewN (n1 + n2)) fun e w' => e = .returned (.bool (decide (x.2 = y.2))) ∧ ∃ n, w' = w.drewN (n1 + n) := fun n1 n2 =>
          (ints_nat (w.drewN (n1 + n2)) B B' bv1 bv2 x.2 y.2 g3.drewN g6.drewN (by have := HBX.out x (List.mem_of_getElem? hx); omega) (by have := HBY.out y (List.mem_of_getElem? hy); omega)).mono fun e w' ⟨h1, n, h2⟩ => ⟨h1, n2 + n, by rw [h2, World.drewN_drewN, Nat.add_assoc]⟩
        obtain ⟨same, hsame⟩ : ∃ same, decide (x.2 = y.2) = same := ⟨_, rfl⟩
        rw [hsame] at hc
        have hc := Lib.hid hc
        have HX := Lib.hid hx; clear hx
        have HY := Lib.hid hy; clear hy
        have hlt3 : (k : Int) < xs.length := by omega
        have hlt4 : (k : Int) < ys.length := by omega
        obtain ⟨x1, x2⟩ := x
        obtain ⟨y1, y2⟩ := y
        dsimp only at g1 g4 hsame
        have HSM := Lib.hid hsame
        clear g3 g6 hsame
        go_wp2
        go_quiet ((go_at_call 20; exact hc.out _ _))
        go_wp2
        by_cases hh : x1 = y1
        · subst hh
          cases same with
          | true =>
            go_quiet (fail)
            go_wp2
            go_roundw
            case rel => exact ⟨k + 1, by omega, by go_num, by rw [List.take_add_one, List.take_add_one, EQ.out, HX.out, HY.out, of_decide_eq_true HSM.out], _, rfl⟩
            case measure => simp [intOf]; omega
          | false =>
            have hf : decide (xs = ys) = false := by
              simp only [decide_eq_false_iff_not]
              intro h; subst h
              have h2 := Option.some.inj (HX.out.symm.trans HY.out)
              exact of_decide_eq_false HSM.out (congrArg Prod.snd h2)
            have HF := Lib.hid hf; clear hf
            go_quiet (fail)
            go_wp2
            go_ret
            exact ⟨by rw [HF.out]; rfl, _, by rw [World.drewN_drewN, World.drewN_drewN]⟩
        · have hne : ((x1 : Int) != (y1 : Int)) = true := by simp; omega
          have hf : decide (xs = ys) = false := by
            simp only [decide_eq_false_iff_not]
            intro h; subst h
            have h2 := Option.some.inj (HX.out.symm.trans HY.out)
            exact hh (congrArg Prod.fst h2)
          have HF := Lib.hid hf; clear hf
          go_quiet (fail)
          go_wp2
          go_ret
          exact ⟨by rw [HF.out]; rfl, _, by rw [World.drewN_drewN, World.drewN_drewN]⟩
      · have hkk : k = xs.length := by omega
        subst hkk
        have hf : decide (xs = ys) = true := by
          have h1 := EQ.out
          rw [List.take_length, HL.out, List.take_length] at h1
          simpa using h1
        have HF := Lib.hid hf; clear hf
        go_wp2
        go_ret
        exact ⟨by rw [HF.out]; rfl, _, rfl⟩
  · have hl1 : ((xs.length : Int) != (ys.length : Int)) = true := by simp; omega
    go_enter Try.func25, Try.ntmps25
    go_wp2
    go_ret
    exact ⟨by simp; intro h; simp [h] at hl, 0, rfl⟩
end Go.Proofs.Ytpfinkcnklkclaa
