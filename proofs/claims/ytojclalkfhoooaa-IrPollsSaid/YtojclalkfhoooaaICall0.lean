/-
  step at a call and at a poll, given what a call of a lower level does.
-/
import Derived.Test.YtojclalkfhoooaaIStep3
set_option linter.unusedVariables false
set_option linter.unusedSimpArgs false
namespace Go.Proofs.Ytojclalkfhoooaa
open Go.RowKit

/-- What a call with r levels left does. -/
def CallC (K : MK) (r : Nat) : Prop :=
  ∀ (w : World) (m : Mach) (ov av : Value) (f : Int) (args : List Nat), MachAt w K m ov → 0 ≤ f → f.toNat < K.E.p.funcs.length → U16sIn w w.heap.size av args → (args.length : Int) = K.E.p.args.getD f.toNat 0 →
    Calls Try.prog 52 #[.pointer (some ⟨K.pm, 0, none⟩), .int .i64 f, av, .int .i64 (101 - (r : Int))] w (StepPost K w (callR K.E r f args m))
theorem Try.info_u16 : (Try.prog.info? 39).map (fun i => (i.zero, i.size, i.bytes)) = some (some (.int .u16 0), 1, 2) := by kernel_rfl
/-- A row of words that a call has made reads as a slice. -/
theorem u16s_own {w : World} {S : Nat} {av : Value} {n : Nat} {xs : List Nat} (h : w.ownsRow S 39 1 av n (xs.map encU16)) (hn : xs.length = n) (hx : ∀ x ∈ xs, x < 65536) : U16sIn w w.heap.size av xs := by
  subst hn
  obtain ⟨a, c, rfl⟩ := ownsRow_form h
  have hl := ownsRow_le h
  refine ⟨a, c, rfl, hl.1, by omega, fun k x hk => ?_⟩
  have hkl := (List.getElem?_eq_some_iff.1 hk).1
  obtain ⟨g, cap, e, hg, hlt⟩ := h.form (by omega)
  cases e
  refine ⟨g, 0, rfl, hlt, ?_, hx x (List.mem_of_getElem? hk)⟩
  rw [Nat.mul_one, Nat.zero_add]
  exact (h.cellAt k (by omega)).trans (by rw [List.getElem?_map, hk]; rfl)

def argsTo (v : Int → Nat) (xs : List Int) (k : Nat) : List Nat := (xs.take k).map v
theorem argsTo_succ {v : Int → Nat} {xs : List Int} {k : Nat} {x : Int} (h : xs[k]? = some x) : argsTo v xs (k + 1) = argsTo v xs k ++ [v x] := by unfold argsTo; rw [List.take_add_one, h, List.map_append]; rfl
theorem argsTo_len {v : Int → Nat} {xs : List Int} {k : Nat} (h : k ≤ xs.length) : (argsTo v xs k).length = k := by unfold argsTo; rw [List.length_map, List.length_take]; omega
theorem argsTo_full {v : Int → Nat} {xs : List Int} : argsTo v xs xs.length = xs.map v := by unfold argsTo; rw [List.take_length]

set_option maxRecDepth 100000 in
set_option maxHeartbeats 2000000 in
theorem step_26 {w : World} {K : MK} {m : Mach} {ov : Value} (h : MachAt w K m ov) {ores oa ob : Int} {on : Nat} (hra : I64 oa) (hrb : I64 ob) (hon : on < 65536) {av : Value} {xs : List Int} (hxs : IntsIn w w.heap.size av xs) (hxl : xs.length ≤ 65536)
    {vb vn : Nat} {v : Int → Nat} (hv : MapIU w vb vn v) {r : Nat} (hr : r ≤ 100) (hC : CallC K r) (hf : 0 ≤ oa ∧ oa.toNat < K.E.p.funcs.length ∧ (xs.length : Int) = K.E.p.args.getD oa.toNat 0) :
    Calls Try.prog 82 #[.pointer (some ⟨K.pm, 0, none⟩), .agg #[.int .i64 26, .int .i64 ores, .int .i64 oa, .int .i64 ob, .int .u16 (on : Int), av], .map (some vb), .int .i64 (100 - (r : Int))] w (StepPost K w (callR K.E r oa (xs.map v) m)) := by
  obtain ⟨ab, ac, rfl, hac, hacm⟩ := hxs.form
  have hla := fun (W : World) (hW : Frm K.B w W) => (hv.kept hW).look hra
  have hlb := fun (W : World) (hW : Frm K.B w W) => (hv.kept hW).look hrb
  have hbs := h.size
  have HW1 := Lib.hid (h.keep ((Below.refl _ _).alloc (Nat.le_refl _) (.cells #[.int .i64 26, .int .i64 ores, .int .i64 oa, .int .i64 ob, .int .u16 (on : Int), .slice ab xs.length ac] 77)))
  have HF1 := Lib.hid ((Frm.refl K.B w).alloc (by omega) (.cells #[.int .i64 26, .int .i64 ores, .int .i64 oa, .int .i64 ob, .int .u16 (on : Int), .slice ab xs.length ac] 77))
  have hX1 := Lib.hid (hxs.below intR_stable ((Below.refl w.heap.size w).alloc (Nat.le_refl _) (.cells #[.int .i64 26, .int .i64 ores, .int .i64 oa, .int .i64 ob, .int .u16 (on : Int), .slice ab xs.length ac] 77)))
  have la := fun n : Nat => hla _ (HF1.out.drewN (n := n))
  have lb := fun n : Nat => hlb _ (HF1.out.drewN (n := n))
  have hnew : (w.alloc (.cells #[.int .i64 26, .int .i64 ores, .int .i64 oa, .int .i64 ob, .int .u16 (on : Int), .slice ab xs.length ac] 77)).heap[w.heap.size]? = some (.cells #[.int .i64 26, .int .i64 ores, .int .i64 oa, .int .i64 ob, .int .u16 (on : Int), .slice ab xs.length ac] 77 (0, 0)) := new_at rfl
  have hv1 := Lib.hid (hv.kept HF1.out)
  have HC := Lib.hid hC
  have HFN := Lib.hid hf
  have hsz1 : w.heap.size < (w.alloc (.cells #[.int .i64 26, .int .i64 ores, .int .i64 oa, .int .i64 ob, .int .u16 (on : Int), .slice ab xs.length ac] 77)).heap.size := by simp
  clear h hv hla hlb hxs hC hf
  obtain ⟨xa, hxa⟩ : ∃ xa, v oa = xa := ⟨_, rfl⟩
  obtain ⟨xb, hxb⟩ : ∃ xb, v ob = xb := ⟨_, rfl⟩
  rw [hxa] at la
  rw [hxb] at lb
  clear hxa hxb
  go_enter Try.func82, Try.ntmps82
  go_upto_region 1 with fail
  generalize hW1 : w.alloc (.cells #[.int .i64 26, .int .i64 ores, .int .i64 oa, .int .i64 ob, .int .u16 (on : Int), .slice ab xs.length ac] 77) = W1 at *
  clear hW1
  have p0 : W1.cell? ⟨w.heap.size, 0, none⟩ = some (.int .i64 26) := cell_of_blk hnew (by simp)
  have p2 : W1.cell? ⟨w.heap.size, 2, none⟩ = some (.int .i64 oa) := cell_of_blk hnew (by simp)
  have p3 : W1.cell? ⟨w.heap.size, 3, none⟩ = some (.int .i64 ob) := cell_of_blk hnew (by simp)
  have p5 : W1.cell? ⟨w.heap.size, 5, none⟩ = some (.slice ab xs.length ac) := cell_of_blk hnew (by simp)
  go_cut [9, 10] (fun x y wx => x = .int .u16 (xa : Int) ∧ y = .int .u16 (xb : Int) ∧ ∃ n, wx = W1.drewN n)
  case first =>
    go_quiet (fail)
    go_wp2
    go_meet
    exact ⟨rfl, rfl, _, rfl⟩
  case rest =>
    obtain ⟨rfl, rfl, n, rfl⟩ := hcut
    have HM := Lib.hid (HW1.out.drewN n)
    have HF := Lib.hid (HF1.out.drewN (n := n))
    have HV2 := Lib.hid ((hv1.out.kept (Frm.refl K.B W1).drewN : MapIU (W1.drewN n) vb vn v))
    have HX2 := Lib.hid (hX1.out.below intR_stable (below_drewN0 w.heap.size W1 n))
    have q0 : (W1.drewN n).cell? ⟨w.heap.size, 0, none⟩ = _ := p0
    have q2 : (W1.drewN n).cell? ⟨w.heap.size, 2, none⟩ = _ := p2
    have q5 : (W1.drewN n).cell? ⟨w.heap.size, 5, none⟩ = _ := p5
    have hsz2 : w.heap.size < (W1.drewN n).heap.size := hsz1
    clear la lb p0 p2 p3 p5 hnew HW1 HF1 hv1 hX1 hsz1
    generalize W1.drewN n = W2 at *
    go_wp2
    go_loopw [15, 159] (fun rv kv wx => ∃ k : Nat, k ≤ xs.length ∧ kv = .int .i64 (k : Int) ∧ Hid (wx.ownsRow W2.heap.size 39 1 rv k ((argsTo v xs k).map encU16) ∧ Below W2.heap.size W2 wx)) (fun _ kv _ => xs.length - (intOf kv).toNat)
    case atStart => exact ⟨0, Nat.zero_le _, rfl, World.ownsRow_nil _ _ _ _, Below.refl _ _⟩
    case round =>
      obtain ⟨k, hk, rfl, HK⟩ := hrel
      obtain ⟨ra, rc, rfl⟩ := ownsRow_form HK.out.1
      have hFx : Frm K.B W2 wr := ⟨HK.out.2.mono (by have := HM.out.size; omega), fun i o hi _ => below_blk HK.out.2 hi (lt_of_block hi)⟩
      by_cases hlt : k < xs.length
      · have hltI : (k : Int) < xs.length := by omega
        have HLT := Lib.hid hlt
        obtain ⟨x, hx⟩ : ∃ x, xs[k]? = some x := ⟨_, List.getElem?_eq_getElem hlt⟩
        obtain ⟨b, o, rfl, hb, hcx, hx64⟩ := HX2.out.get hx
        rw [Nat.mul_one] at hcx
        have cx := (HK.out.2.cell (p := ⟨b, o + k, none⟩) (by show b < W2.heap.size; omega)).trans hcx
        have lx := (HV2.out.kept hFx).look hx64
        have hvx := HV2.out.2 x
        have HXS := Lib.hid (argsTo_succ (v := v) hx)
        have hal := argsTo_len (v := v) (show k ≤ xs.length by omega)
        obtain ⟨ii, hii, hzi0, hzi1, hzi2⟩ := info_parts Try.info_u16
        have hszx := HK.out.2.size
        clear hx hcx hlt
        generalize v x = vx at *
        go_wp2_with (at_builtin; go_must (refine wpList_append_lies _ rfl (.tmp 163) (.tmp 167) 36 rfl W2.heap.size 39 ii (.int .u16 0) 1 2 Try.underlying36 hii hzi0 hzi1 hzi2 rfl (by decide) _ k ((argsTo v xs k).map encU16) rfl (HK.out.1.alloc _) ⟨wr.heap.size, 0, none⟩ 1 1 [.int .u16 (vx : Int)] rfl rfl (World.news_of_block (cs := #[.int .u16 (vx : Int)]) (new_at (by simp))) (by simp [Value.oneCell']) (by decide) (by unfold maxLen; omega) (by omega) (by simp; omega) (wr.heap.size + 1) (by simp) ?_; intro gq capq w6 hown6 hgrow6 hat6 hlt6; have HO6 := Lib.hid (And.intro hown6 hgrow6); clear hown6 hgrow6))
        go_roundw
        case rel =>
          refine ⟨k + 1, HLT.out, by go_num, ?_, (HK.out.2.alloc (by omega) _).grown HO6.out.2 (by simp; omega) (fun k hk => (HK.out.1.lt k hk).1)⟩
          rw [HXS.out, List.map_append]
          exact HO6.out.1
        case measure => have := HLT.out; simp [intOf]; omega
      · obtain rfl : k = xs.length := by omega
        have hltI : ¬ (xs.length : Int) < xs.length := by omega
        have hown := HK.out.1
        rw [argsTo_full] at hown
        have hcell : wr.cell? ⟨w.heap.size, 2, none⟩ = _ := (HK.out.2.cell (p := ⟨w.heap.size, 2, none⟩) hsz2).trans q2
        have hMr := HM.out.keep HK.out.2
        have hcall := HC.out wr m ov (.slice ra xs.length rc) oa (xs.map v) hMr HFN.out.1 HFN.out.2.1 (u16s_own hown (by simp) (fun y hy => by obtain ⟨z, _, rfl⟩ := List.mem_map.1 hy; exact HV2.out.2 z)) (by simpa using HFN.out.2.2)
        have HFF := Lib.hid (HF.out.trans hFx)
        cases hres : callR K.E r oa (xs.map v) m with
        | ok x m' =>
          have hc2 : Calls Try.prog 52 #[.pointer (some ⟨K.pm, 0, none⟩), .int .i64 oa, .slice ra xs.length rc, .int .i64 (101 - (r : Int))] wr fun e w' => e = .returned (.int .u16 (x : Int)) ∧ (∃ ov', MachAt w' K m' ov') ∧ Frm K.B wr w' ∧ x < 65536 := by rw [hres] at hcall; exact hcall
          have HC2 := Lib.hid hc2
          have HR := Lib.hid hres
          clear hcall hc2 hres hown hMr hFx hltI
          have hltI : ¬ (xs.length : Int) < xs.length := by omega
          have hdp : (100 - (r : Int)) + 1 = 101 - (r : Int) := by omega
          go_wp2_with (go_at_call 52; go_must (refine HC2.out.mono ?_; rintro e w' ⟨rfl, ⟨ov', hm'⟩, hf', hx'⟩))
          go_ret
          rw [HR.out]
          exact StepPost.ok hm' (HFF.out.trans hf') hx'
        | trap k i m' =>
          have hc2 : Calls Try.prog 52 #[.pointer (some ⟨K.pm, 0, none⟩), .int .i64 oa, .slice ra xs.length rc, .int .i64 (101 - (r : Int))] wr fun e w' => e = .panicked [endP k i] ∧ (∃ ov', MachAt w' K m' ov') ∧ Frm K.B wr w' ∧ True := by rw [hres] at hcall; exact hcall
          have HC2 := Lib.hid hc2
          have HR := Lib.hid hres
          clear hcall hc2 hres hown hMr hFx hltI
          have hltI : ¬ (xs.length : Int) < xs.length := by omega
          have hdp : (100 - (r : Int)) + 1 = 101 - (r : Int) := by omega
          go_wp2_with (go_at_call 52; go_must (refine HC2.out.mono ?_; rintro e w' ⟨rfl, ⟨ov', hm'⟩, hf', hx'⟩))
          exact ⟨rfl, by rw [HR.out]; exact StepPost.trap hm' (HFF.out.trans hf')⟩
end Go.Proofs.Ytojclalkfhoooaa
