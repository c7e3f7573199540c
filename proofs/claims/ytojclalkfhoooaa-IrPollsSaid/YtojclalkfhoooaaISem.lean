/-
  What evaluations of written-down programs are, step by step. Plain facts: no program in sight.
-/
import Derived.Test.YtojclalkfhoooaaISan
set_option linter.unusedVariables false
set_option linter.unusedSimpArgs false
namespace Go.Proofs.Ytojclalkfhoooaa

theorem opsR_step {E : IEnv} {call : Int → List Nat → Mach → Res Nat} {o : IOp} {os : List IOp} {v : Int → Nat} {m m' : Mach} {r : Nat} (hf : 0 < m.fuel) (hs : stepR E call o v m.pay = .ok r m') : opsR E call (o :: os) v m = opsR E call os (setV v o.res r) m' := by
  show (if m.fuel ≤ 0 then Res.trap 7 0 m else match stepR E call o v m.pay with | .ok r m' => opsR E call os (setV v o.res r) m' | .trap k i m' => .trap k i m') = _
  rw [if_neg (by omega), hs]
theorem opsR_trap {E : IEnv} {call : Int → List Nat → Mach → Res Nat} {o : IOp} {os : List IOp} {v : Int → Nat} {m m' : Mach} {k i : Nat} (hf : 0 < m.fuel) (hs : stepR E call o v m.pay = .trap k i m') : opsR E call (o :: os) v m = .trap k i m' := by
  unfold opsR
  rw [if_neg (by omega), hs]
theorem opsR_out {E : IEnv} {call : Int → List Nat → Mach → Res Nat} {o : IOp} {os : List IOp} {v : Int → Nat} {m : Mach} (hf : m.fuel ≤ 0) : opsR E call (o :: os) v m = .trap 7 0 m := by
  unfold opsR
  rw [if_pos hf]
/-- A block that returns. -/
theorem blockR_ret {E : IEnv} {call : Int → List Nat → Mach → Res Nat} {blocks : List IBlk} {n : Nat} {at' : Int} {args : List Nat} {v v2 : Int → Nat} {m m2 : Mach} (h : opsR E call (blkAt blocks at').ops (bindV (blkAt blocks at').params args v) m = .ok v2 m2) (hf : 0 < m2.fuel) (hk : (blkAt blocks at').term.kind = 4) :
    blockR E call blocks (n + 1) at' args v m = .ok (if (blkAt blocks at').term.a = -1 then 0 else v2 (blkAt blocks at').term.a) m2.pay := by
  rw [blockR]
  rw [h]
  simp only
  rw [if_neg (by omega), if_pos hk]
theorem blockR_trap {E : IEnv} {call : Int → List Nat → Mach → Res Nat} {blocks : List IBlk} {n : Nat} {at' : Int} {args : List Nat} {v : Int → Nat} {m m2 : Mach} {k i : Nat} (h : opsR E call (blkAt blocks at').ops (bindV (blkAt blocks at').params args v) m = .trap k i m2) :
    blockR E call blocks (n + 1) at' args v m = .trap k i m2 := by
  rw [blockR]
  rw [h]
theorem blockR_next {E : IEnv} {call : Int → List Nat → Mach → Res Nat} {blocks : List IBlk} {n : Nat} {at' : Int} {args : List Nat} {v v2 : Int → Nat} {m m2 : Mach} {e : IEdge} (h : opsR E call (blkAt blocks at').ops (bindV (blkAt blocks at').params args v) m = .ok v2 m2) (hf : 0 < m2.fuel) (h4 : (blkAt blocks at').term.kind ≠ 4) (h5 : (blkAt blocks at').term.kind ≠ 5)
    (he : edgeOf (blkAt blocks at').term (v2 (blkAt blocks at').term.a) = e) : blockR E call blocks (n + 1) at' args v m = blockR E call blocks n e.block (e.args.map v2) v2 m2.pay := by
  rw [blockR]
  rw [h]
  simp only
  rw [if_neg (by omega), if_neg h4, if_neg h5, he]
/-- A program of one block that returns. -/
theorem run_ok {E : IEnv} {ops : List IOp} {ta : Int} (hp : E.p.funcs.getD 0 [] = [⟨[], ops, ⟨4, ta, []⟩⟩]) {s : ByteArray} {fuel : Int} {v2 : Int → Nat} {m2 : Mach} (h : opsR E (callR E 99) ops (fun _ => 0) ⟨ramOf s, fuel, [], 0, 0⟩ = .ok v2 m2) (hf : 0 < m2.fuel) :
    runE E 0 [] s fuel = ⟨if ta = -1 then 0 else v2 ta, m2.out, 6, 0, m2.ram, m2.inputs, m2.polls⟩ := by
  show runOf (callR E 100 0 [] ⟨ramOf s, fuel, [], 0, 0⟩) = _
  rw [callR]
  rw [show (0 : Int).toNat = 0 from rfl, hp]
  simp only [List.isEmpty_cons]
  rw [if_neg (by simp), blockR_ret (blocks := [⟨[], ops, ⟨4, ta, []⟩⟩]) (at' := 0) h hf rfl]
  rfl
theorem run_trap {E : IEnv} {ops : List IOp} {ta : Int} (hp : E.p.funcs.getD 0 [] = [⟨[], ops, ⟨4, ta, []⟩⟩]) {s : ByteArray} {fuel : Int} {m2 : Mach} {k i : Nat} (h : opsR E (callR E 99) ops (fun _ => 0) ⟨ramOf s, fuel, [], 0, 0⟩ = .trap k i m2) :
    runE E 0 [] s fuel = ⟨0, m2.out, k, i, m2.ram, m2.inputs, m2.polls⟩ := by
  show runOf (callR E 100 0 [] ⟨ramOf s, fuel, [], 0, 0⟩) = _
  rw [callR]
  rw [show (0 : Int).toNat = 0 from rfl, hp]
  simp only [List.isEmpty_cons]
  rw [if_neg (by simp), blockR_trap (blocks := [⟨[], ops, ⟨4, ta, []⟩⟩]) (at' := 0) h]
  rfl
theorem opsF_congr {p q : IProg} (h : ∀ o, opF q o = opF p o) (i : Int) : ∀ (l : List IOp) (k : Int) (d : Defs), opsF q i l k d = opsF p i l k d
  | [], k, d => rfl
  | o :: l, k, d => by
    rw [opsF_cons, opsF_cons]
    have e : opStep q i k o d = opStep p i k o d := by unfold opStep; rw [h]
    rw [e]
    cases opStep p i k o d with
    | none => rfl
    | some d' => exact opsF_congr h i l (k + 1) d'
theorem blksF_congr {p q : IProg} (h : ∀ o, opF q o = opF p o) (bl : List IBlk) : ∀ (l : List IBlk) (i : Int) (d : Defs), blksF q bl l i d = blksF p bl l i d
  | [], i, d => rfl
  | b :: l, i, d => by
    have e : blkF q bl i b d = blkF p bl i b d := by
      unfold blkF
      cases parsF i b.params d with
      | none => rfl
      | some d1 => rw [Option.bind_some, Option.bind_some, opsF_congr h]
    show (blkF q bl i b d).bind (blksF q bl l (i + 1)) = (blkF p bl i b d).bind (blksF p bl l (i + 1))
    rw [e]
    cases blkF p bl i b d with
    | none => rfl
    | some d' => exact blksF_congr h bl l (i + 1) d'
theorem functionF_congr {p q : IProg} (hf : q.funcs = p.funcs) (ha : q.args = p.args) (h : ∀ o, opF q o = opF p o) (n : Nat) : functionF q n = functionF p n := by
  unfold functionF
  rw [hf, ha]
  cases p.funcs.getD n [] with
  | nil => rfl
  | cons b bs =>
    simp only
    rw [shapesF_eq, shapesF_eq, blksF_congr h]
/-- Banks put into a valid program. -/
theorem banks_valid {p : IProg} (h : validF p = 0) (hd : p.data = []) {bs : List ByteArray} (hb : ∀ s ∈ bs, s.size = 4096) (hl : bs.length ≤ 64) : validF { p with banks := bs } = 0 := by
  obtain ⟨h0, hf⟩ := validF_zero h
  obtain ⟨h1, h2, h3, h4, h5, _⟩ := headF_zero h0
  have hpl : placesF { p with banks := bs } = true := by
    unfold placesF banksF dataF
    rw [Bool.and_eq_true]
    refine ⟨List.all_eq_true.2 fun s hs => decide_eq_true (hb s hs), ?_⟩
    show (List.range p.data.length).all _ = true
    rw [hd]; rfl
  have hh : headF { p with banks := bs } = 0 := by
    unfold headF
    rw [if_neg (by show ¬ (2000 < p.funcs.length ∨ 512 < p.data.length ∨ 64 < bs.length); omega), if_neg (by simpa using h2), if_neg (by show ¬ p.args.all argOk = false; rw [h3]; simp), if_neg, if_neg (by rw [hpl]; simp)]
    rintro (h | ⟨h, h'⟩)
    · have : startsF p p.entry = false := h
      rw [h4] at this; cases this
    · have : startsF p p.handler = false := h'
      rw [h5 h] at this; cases this
  unfold validF
  rw [if_neg (by rw [hh]; simp), if_pos]
  refine List.all_eq_true.2 fun n hn => ?_
  exact (functionF_congr (p := p) (q := { p with banks := bs }) rfl rfl (fun o => rfl) n).trans (hf n (List.mem_range.1 hn))
theorem ramStr_size (l : List Nat) : (ramStr l).size = l.length := by
  unfold ramStr strOfNums
  show Array.size _ = _
  simp
end Go.Proofs.Ytojclalkfhoooaa
