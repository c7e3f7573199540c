/-
  checker.operation: its contract, at every operation. A region that draws its order, of quiet operations ahead of a tail in one order: walked once, by the cheap step. No function of the program is named here. define, where it adds. checker.shapes: everything but the uses of values; definitions are recorded.
-/
import Derived.Test.YtojclalkfhoooaaIOper2
import Derived.Test.YtojclalkfhoooaaIOper3
import Derived.Test.YtojclalkfhoooaaGMap
import Derived.StillTail
import Derived.BigQuiet
import Derived.Test.YtojclalkfhoooaaGICkF
import Derived.Test.YtojclalkfhoooaaITerm
set_option linter.unusedVariables false
set_option linter.unusedSimpArgs false
namespace Go.Proofs.Ytojclalkfhoooaa
open Go.RowKit

set_option maxHeartbeats 1000000 in
set_option maxRecDepth 100000 in
theorem oper_none {w : World} {C : Nat} {p : IProg} (o : IOp) (ho : Op64 o) (ar : Option Addr) (cap : Nat) (hs : shape o.code = ⟨false, false, false, false, false⟩) :
    Calls Try.prog 98 #[.pointer (some ⟨C, 0, none⟩), opV o (.slice ar o.args.length cap)] w (RetBool w (opF p o)) := by
  unfold opV
  obtain ⟨hc64, hr64, ha64, hb64, hn16⟩ := ho
  have e : opF p o = false := by unfold opF; rw [hs]; rfl
  rw [e]
  have hf : ∀ W, Calls Try.prog 105 #[.int .i64 o.code] W fun e w' => e = .returned (.tuple #[.agg #[.bool false, .bool false, .bool false, .bool false], .bool false]) ∧ Below W.heap.size W w' := fun W => by have := flds_any o.code W; rw [hs] at this; exact this
  have HF := Lib.hid hf
  clear hf hs e
  go_enter Try.func98, Try.ntmps98
  go_wp2_with (first | (go_at_call 105; go_must (refine (HF.out _).mono ?_; rintro e w1 ⟨rfl, hb1⟩; have HB1 := Lib.hid hb1; clear hb1)) | go_in)
  go_ret
  exact ⟨rfl, (((Below.refl _ _).alloc (Nat.le_refl _) _).trans (HB1.out.mono (by simp))).alloc (by have h9 := HB1.out.size; simp at h9; omega) _⟩
theorem oper_any {w : World} {B C : Nat} {V : PV} {tl : List Value} {p : IProg} (hp : ProgIn w B V p) (hB : B ≤ w.heap.size) (hC : w.heap[C]? = some (.cells (progL V p ++ tl).toArray 128 (0, 0))) (hl : p.args.length = p.funcs.length) (o : IOp) (ho : Op64 o) (ar : Option Addr) (cap : Nat) (hcap : o.args.length ≤ cap ∧ cap ≤ 9223372036854775807) :
    Calls Try.prog 98 #[.pointer (some ⟨C, 0, none⟩), opV o (.slice ar o.args.length cap)] w (RetBool w (opF p o)) := by
  by_cases h26 : o.code = 26
  · exact oper_calls hp hB hC hl o ho ar cap hcap h26
  by_cases h2 : o.code = 2
  · exact oper_objs hp hB hC hl o ho ar cap hcap h2
  by_cases h24 : o.code = 24
  · exact oper_in (pvs := []) o ho ar cap hcap h24
  by_cases h25 : o.code = 25
  · exact oper_out (pvs := []) o ho ar cap hcap h25
  rcases shape_eq o.code with ⟨h, e⟩ | ⟨h, e⟩ | ⟨h, e⟩ | ⟨h, e⟩ | ⟨h, e⟩ | ⟨h, e⟩ | ⟨h, e⟩ | ⟨h, e⟩
  · exact oper_const (pvs := []) o ho ar cap hcap e h26 h2 h24 h25
  · exact oper_una (pvs := []) o ho ar cap hcap e h26 h2 h24 h25
  · exact oper_bin (pvs := []) o ho ar cap hcap e h26 h2 h24 h25
  · exact oper_sto (pvs := []) o ho ar cap hcap e h26 h2 h24 h25
  · exact oper_rom (pvs := []) o ho ar cap hcap e h26 h2 h24 h25
  · exact absurd h h25
  · exact oper_call (pvs := []) o ho ar cap hcap e h26 h2 h24 h25
  · exact oper_none o ho ar cap e
end Go.Proofs.Ytojclalkfhoooaa
set_option linter.unusedVariables false
set_option linter.unusedSimpArgs false
namespace Go.Proofs.Ytojclalkfhoooaa
open Go.RowKit

theorem still_of_quiet {P : Program} {ops : Array Oper} {w : World} {Q : Act → Prop} : ∀ {rest : List Oper} {a : Act}, wpQuiet P ops (fun w' => w' = w) Q rest a → wpStill P ops w Q rest a
  | [], a, h => h
  | o :: rest, a, h => by
    unfold wpQuiet at h
    unfold wpStill
    split at h
    · rename_i hw
      rw [if_pos hw]
      obtain ⟨v, h1, h2⟩ := h
      have h3 := h1 w rfl
      have h2' := still_of_quiet h2
      unfold Oper.quietAt at h3
      unfold Oper.still
      generalize (execOp a.eval o).run P w = r at *
      cases r with
      | ok n w' =>
        cases n <;> simp only [Oper.quietUpon] at h3 <;> simp only [Oper.stillUpon]
        case value u => obtain ⟨e1, rfl⟩ := h3; exact ⟨e1, h2'⟩
        case skip => obtain ⟨e1, rfl⟩ := h3; exact ⟨e1, h2'⟩
        case enter f args => exact ⟨h3.1, v, h3.2, h2'⟩
      | halt x w' => simp only [Oper.quietUpon] at h3
    · rename_i hw
      rw [if_neg hw]
      exact still_of_quiet h
/-- Quiet operations, then a tail. -/
theorem wp_region_quiet_tail {P : Program} {id : Nat} {Q : Exit → Act → World → Prop} {a : Act} {w : World} {l : List Oper} (n : Nat) (hm : P.follows .mixedOrders = true) (hB : Region.lexTailB .any l.toArray n = true)
    (h : wpQuiet P l.toArray (fun w' => w' = w.drew) (fun a' => wpList P l.toArray Q (l.drop n) a' w.drew) (l.take n) a) : (Code.region id l.toArray true).wp P Q a w :=
  wp_region_still_tail n hm hB (still_of_quiet h)
end Go.Proofs.Ytojclalkfhoooaa
set_option linter.unusedVariables false
set_option linter.unusedSimpArgs false
namespace Go.Proofs.Ytojclalkfhoooaa
open Go.RowKit

theorem define_yes {w : World} {C m1 m2 n : Nat} {pv : List Value} {blv idv : Value} {d d' : Defs} (h : ChkAt w C m1 m2 pv blv idv n d) (hn : n < 9000000000000000000) (v i k : Int) (hv : I64 v) (hi : I64 i) (hk : I64 k) (hyes : defF d v i k = some d') :
    Calls Try.prog 97 #[.pointer (some ⟨C, 0, none⟩), .int .i64 v, .int .i64 i, .int .i64 k] w fun e w' => e = .returned (.bool true) ∧ ChkAt w' C m1 m2 pv blv idv (n + 1) d' ∧ Kept m1 m2 w w' := by
  obtain ⟨hb, hl, hm1, hm2, hne, hd⟩ := h
  obtain ⟨p0, p1, p2, p3, p4, p5, rfl⟩ : ∃ a b c d e f, pv = [a, b, c, d, e, f] := by
    match pv, hl with
    | [a, b, c, d, e, f], _ => exact ⟨a, b, c, d, e, f, rfl⟩
  have hlk := hm1.lookOk hv
  have cm1 : w.cell? ⟨C, 7, none⟩ = some (.map (some m1)) := cell_of_blk hb rfl
  have cm2 : w.cell? ⟨C, 8, none⟩ = some (.map (some m2)) := cell_of_blk hb rfl
  have hnot : ¬ ((d.1 v).isSome ∨ v < 0 ∨ 65535 < v) := fun hc => by rw [defF, if_pos hc] at hyes; cases hyes
  have hd' : d' = (putP d.1 v i, putP d.2 v k) := by rw [defF, if_neg hnot] at hyes; cases hyes; rfl
  have h0 : (d.1 v).isSome = false := by cases hx : (d.1 v).isSome with | false => rfl | true => exact absurd (.inl hx) hnot
  have hv1 : d.1 v = none := by cases hx : d.1 v with | none => rfl | some y => rw [hx] at h0; cases h0
  have hv2 : d.2 v = none := by cases hx : d.2 v with | none => rfl | some y => have := hd v; rw [hx, hv1] at this; cases this
  have h1 : decide (v < 0) = false := decide_eq_false (by omega)
  have h2 : decide (65535 < v) = false := decide_eq_false (by omega)
  rw [h0] at hlk
  obtain ⟨s1, w1, w2, e1, g1, e2, k1, g2⟩ := (MapPI.same (w' := w.drew) hm1 rfl).entry hn hv hi hv1
  obtain ⟨es, ck, hmb⟩ := hm2.blk
  have hm2' : MapPI w2 m2 n d.2 := (MapPI.same (w' := w.drew) hm2 rfl).same (g2.block m2 (lt_of_block hmb) (fun e => hne (by cases e; rfl)))
  obtain ⟨s2, w3, w4, e3, g3, e4, k2, g4⟩ := hm2'.entry hn hv hk hv2
  subst hd'
  clear hyes hnot
  simp only [goInt] at e1 e2 e3 e4
  have H := Lib.hid (And.intro g2 g4)
  go_enter Try.func97, Try.ntmps97
  go_wp2
  go_region
  go_wp2
  go_ret
  obtain ⟨g2, g4⟩ := H.out
  obtain ⟨es1, ck1, hma⟩ := hm1.blk
  have hC1 : C ≠ m1 := fun e => by rw [e, hma] at hb; cases hb
  have hC2 : C ≠ m2 := fun e => by rw [e, hmb] at hb; cases hb
  have hsz : w.heap.size ≤ w2.heap.size := g2.size
  have hk4 : ∀ b, b ≠ m1 → b ≠ m2 → b < w.heap.size → w4.heap[b]? = w.heap[b]? := fun b x1 x2 hbs => (g4.block b (by omega) (fun e => x2 (by cases e; rfl))).trans (g2.block b hbs (fun e => x1 (by cases e; rfl)))
  obtain ⟨es2, ck2, hk1⟩ := k1.blk
  refine ⟨rfl, ⟨(hk4 C hC1 hC2 (lt_of_block hb)).trans hb, rfl, k1.same (g4.block m1 (lt_of_block hk1) (fun e => hne (by cases e; rfl))), k2, hne, fun x => ?_⟩, ⟨g4.os.trans g2.os, g4.tape.trans g2.tape, g4.output.trans g2.output, Nat.le_trans hsz g4.size, fun b hbs x1 x2 => hk4 b x1 x2 hbs⟩⟩
  show (putP d.1 v i x).isSome = (putP d.2 v k x).isSome
  unfold putP
  split
  · rfl
  · exact hd x
end Go.Proofs.Ytojclalkfhoooaa
set_option linter.unusedVariables false
set_option linter.unusedSimpArgs false
namespace Go.Proofs.Ytojclalkfhoooaa
open Go.RowKit

theorem opsF_append {p : IProg} {i : Int} : ∀ (l m : List IOp) (k : Int) (d : Defs), opsF p i (l ++ m) k d = (opsF p i l k d).bind (opsF p i m (k + l.length))
  | [], m, k, d => by simp [opsF]
  | o :: l, m, k, d => by
    have e : k + 1 + (l.length : Int) = k + ((o :: l).length : Int) := by simp; omega
    show (if opF p o then (if 0 ≤ o.res then (defF d o.res i k).bind (opsF p i (l ++ m) (k + 1)) else opsF p i (l ++ m) (k + 1) d) else none) = (if opF p o then (if 0 ≤ o.res then (defF d o.res i k).bind (opsF p i l (k + 1)) else opsF p i l (k + 1) d) else none).bind _
    by_cases h : opF p o = true
    · rw [if_pos h, if_pos h]
      by_cases h2 : 0 ≤ o.res
      · rw [if_pos h2, if_pos h2]
        cases defF d o.res i k with
        | none => rfl
        | some d' => rw [Option.bind_some, Option.bind_some, opsF_append l m, e]
      · rw [if_neg h2, if_neg h2, opsF_append l m, e]
    · rw [if_neg h, if_neg h]; rfl
theorem blksF_append {p : IProg} {bl : List IBlk} : ∀ (l m : List IBlk) (i : Int) (d : Defs), blksF p bl (l ++ m) i d = (blksF p bl l i d).bind (blksF p bl m (i + l.length))
  | [], m, i, d => by simp [blksF]
  | b :: l, m, i, d => by
    have e : i + 1 + (l.length : Int) = i + ((b :: l).length : Int) := by simp; omega
    show (blkF p bl i b d).bind (blksF p bl (l ++ m) (i + 1)) = ((blkF p bl i b d).bind (blksF p bl l (i + 1))).bind _
    cases blkF p bl i b d with
    | none => rfl
    | some d' => rw [Option.bind_some, Option.bind_some, blksF_append l m, e]
theorem split_at {α : Type} {l : List α} {k : Nat} {x : α} (h : l[k]? = some x) : l = l.take k ++ x :: l.drop (k + 1) := by
  rw [List.getElem?_eq_some_iff] at h
  obtain ⟨hk, rfl⟩ := h
  conv => lhs; rw [← List.take_append_drop k l, List.drop_eq_getElem_cons hk]
theorem take_len {α : Type} {l : List α} {k : Nat} {x : α} (h : l[k]? = some x) : ((l.take k).length : Int) = k := by
  have := (List.getElem?_eq_some_iff.1 h).1
  rw [List.length_take, Nat.min_eq_left (by omega)]
theorem parsF_step {i : Int} {l : List Int} {k : Nat} {v : Int} (h : l[k]? = some v) {d d' : Defs} (hd : parsF i (l.take k) d = some d') : parsF i (l.take (k + 1)) d = defF d' v i (-1) := by
  rw [List.take_add_one, h, Option.toList, parsF_append, hd, Option.bind_some]
  show (defF d' v i (-1)).bind (parsF i []) = _
  cases defF d' v i (-1) <;> rfl
theorem parsF_fail {i : Int} {l : List Int} {k : Nat} {v : Int} (h : l[k]? = some v) {d d' : Defs} (hd : parsF i (l.take k) d = some d') (hn : defF d' v i (-1) = none) : parsF i l d = none := by
  rw [split_at h, parsF_append, hd, Option.bind_some]
  show (defF d' v i (-1)).bind _ = none
  rw [hn]; rfl
/-- One operation. -/
def opStep (p : IProg) (i k : Int) (o : IOp) (d : Defs) : Option Defs := if opF p o then (if 0 ≤ o.res then defF d o.res i k else some d) else none
theorem opsF_cons (p : IProg) (i k : Int) (o : IOp) (os : List IOp) (d : Defs) : opsF p i (o :: os) k d = (opStep p i k o d).bind (opsF p i os (k + 1)) := by
  unfold opsF opStep
  by_cases h : opF p o = true
  · rw [if_pos h, if_pos h]
    by_cases h2 : 0 ≤ o.res
    · rw [if_pos h2, if_pos h2]
    · rw [if_neg h2, if_neg h2]; rfl
  · rw [if_neg h, if_neg h]; rfl
theorem opsF_step {p : IProg} {i : Int} {l : List IOp} {k : Nat} {o : IOp} (h : l[k]? = some o) {d d' : Defs} (hd : opsF p i (l.take k) 0 d = some d') : opsF p i (l.take (k + 1)) 0 d = opStep p i k o d' := by
  rw [List.take_add_one, h, Option.toList, opsF_append, hd, Option.bind_some, opsF_cons, take_len h, Int.zero_add]
  cases opStep p i k o d' <;> rfl
theorem opsF_fail {p : IProg} {i : Int} {l : List IOp} {k : Nat} {o : IOp} (h : l[k]? = some o) {d d' : Defs} (hd : opsF p i (l.take k) 0 d = some d') (hn : opStep p i k o d' = none) : opsF p i l 0 d = none := by
  rw [split_at h, opsF_append, hd, Option.bind_some, opsF_cons, take_len h, Int.zero_add, hn]; rfl
theorem blksF_step {p : IProg} {bl l : List IBlk} {k : Nat} {b : IBlk} (h : l[k]? = some b) {d d' : Defs} (hd : blksF p bl (l.take k) 0 d = some d') : blksF p bl (l.take (k + 1)) 0 d = blkF p bl k b d' := by
  rw [List.take_add_one, h, Option.toList, blksF_append, hd, Option.bind_some, take_len h, Int.zero_add]
  show (blkF p bl k b d').bind (blksF p bl [] _) = _
  cases blkF p bl k b d' <;> rfl
theorem blksF_fail {p : IProg} {bl l : List IBlk} {k : Nat} {b : IBlk} (h : l[k]? = some b) {d d' : Defs} (hd : blksF p bl (l.take k) 0 d = some d') (hn : blkF p bl k b d' = none) : blksF p bl l 0 d = none := by
  rw [split_at h, blksF_append, hd, Option.bind_some, take_len h, Int.zero_add]
  show (blkF p bl k b d').bind _ = none
  rw [hn]; rfl
def noDefs : Defs := (fun _ => none, fun _ => none)
theorem shapesF_eq (p : IProg) (bl : List IBlk) : shapesF p bl = blksF p bl bl 0 noDefs := rfl
/-- What shapes leaves. -/
def ShpPost (w : World) (C m1 m2 : Nat) (pv : List Value) (blv idv : Value) (r : Option Defs) (e : Ending) (w' : World) : Prop :=
  e = .returned (.bool r.isSome) ∧ Kept m1 m2 w w' ∧ ∀ d, r = some d → ∃ n, n < 9000000000000000000 ∧ ChkAt w' C m1 m2 pv blv idv n d
/-- A function that is not too large for the counts. -/
def SizedF (blocks : List IBlk) : Prop := blocks.length ≤ 2000000 ∧ ∀ b ∈ blocks, b.params.length ≤ 2000000 ∧ b.ops.length ≤ 2000000 ∧ b.term.to.length ≤ 2000000
end Go.Proofs.Ytojclalkfhoooaa
