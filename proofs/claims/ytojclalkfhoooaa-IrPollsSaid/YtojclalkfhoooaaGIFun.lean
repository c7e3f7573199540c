/-
  checker.defined: all values of a list are defined before a position of a block. The contracts of package flow and of the reference's Order and From, in their last form: what they answer for a valid graph. ir.function: a function of a program is valid.
-/
import Derived.Test.YtojclalkfhoooaaGIShp
import Derived.Test.YtojclalkfhoooaaGICkF
import Derived.Test.YtojclalkfhoooaaIOper
import Derived.Test.YtojclalkfhoooaaFrom
import Derived.Test.YtojclalkfhoooaaGLoop0
import Derived.Test.YtojclalkfhoooaaIShp2
import Derived.Test.YtojclalkfhoooaaIGraph
import Derived.Test.YtojclalkfhoooaaIEnds
set_option linter.unusedVariables false
set_option linter.unusedSimpArgs false
namespace Go.Proofs.Ytojclalkfhoooaa
open Go.RowKit

theorem idom_step {g : List (List Nat)} (hv : ValidG g) (hr : ∀ x, x < g.length → Reach (GE g) x) {c : Nat} (hc : c < g.length) :
    (idomAt g c = -1 ∧ ∀ d, d ≠ c → domsB g d c = false) ∨ ∃ c' : Nat, idomAt g c = (c' : Int) ∧ c' < g.length ∧ (∀ d, d ≠ c → domsB g d c' = domsB g d c) ∧ posOf (orderL g) c' < posOf (orderL g) c := by
  rcases idomOf hv c with ⟨h1, h2⟩ | ⟨c', h1, h2, h3, h4⟩
  · exact .inl ⟨h1, fun d hd => by cases h : domsB g d c with | false => rfl | true => exact (h2 d hd h).elim⟩
  · have hb := (domsB_iff hv c' c).1 h3
    refine .inr ⟨c', h1, (doms_lt hv h3).1, fun d hd => ?_, ?_⟩
    · rw [Bool.eq_iff_iff]
      constructor
      · intro h
        have h5 := (domsB_iff hv d c').1 h
        exact (domsB_iff hv d c).2 ⟨h5.1, hr c hc, dom_trans h5.2.2 hb.2.2⟩
      · intro h
        exact (domsB_iff hv d c').2 ⟨((domsB_iff hv d c).1 h).1, hb.1, h4 d hd h⟩
    · obtain ⟨ns, hO⟩ := ordF hv
      obtain ⟨D, hD⟩ := hO.dom
      rw [hO.eq]
      have hm := hD.dom_mem ((hO.mem c).2 (hr c hc)) hb.2.2
      rcases Nat.lt_or_eq_of_le hm.2 with h | h
      · exact h
      · exact absurd (posOf_inj hO.nodup hm.1 ((hO.mem c).2 (hr c hc)) h) h2
theorem domsB_self {g : List (List Nat)} (hv : ValidG g) (hr : ∀ x, x < g.length → Reach (GE g) x) {c : Nat} (hc : c < g.length) : domsB g c c = true := (domsB_iff hv c c).2 ⟨hr c hc, hr c hc, dom_refl _ _⟩
/-- On the way up from i in search of db. -/
def ChainTo (g : List (List Nat)) (db i : Nat) (x : Int) : Prop := (x = -1 ∧ domsB g db i = false) ∨ ∃ c : Nat, x = (c : Int) ∧ c < g.length ∧ domsB g db c = domsB g db i
def chainM (g : List (List Nat)) (x : Int) : Nat := if x = -1 then 0 else posOf (orderL g) x.toNat + 1
theorem chain_next {g : List (List Nat)} (hv : ValidG g) (hr : ∀ x, x < g.length → Reach (GE g) x) {db i c : Nat} (hc : c < g.length) (h : domsB g db c = domsB g db i) (hne : c ≠ db) :
    ∃ y, (idomL g)[c]? = some y ∧ ChainTo g db i y ∧ chainM g y < chainM g c := by
  refine ⟨idomAt g c, by unfold idomL; rw [List.getElem?_map, List.getElem?_range hc]; rfl, ?_⟩
  rcases idom_step hv hr hc with ⟨h1, h2⟩ | ⟨c', h1, h2, h3, h4⟩
  · rw [h1]
    refine ⟨.inl ⟨rfl, by rw [← h]; exact h2 db (Ne.symm hne)⟩, ?_⟩
    unfold chainM
    rw [if_pos rfl, if_neg (by omega)]
    omega
  · rw [h1]
    refine ⟨.inr ⟨c', rfl, h2, by rw [h3 db (Ne.symm hne)]; exact h⟩, ?_⟩
    unfold chainM
    rw [if_neg (by omega), if_neg (by omega), Int.toNat_natCast, Int.toNat_natCast]
    omega
theorem idomL_len (g : List (List Nat)) : (idomL g).length = g.length := by simp [idomL]

theorem case_dfd : ∀ q1 q2 : Bool, (q1 = true ∧ q2 = true) ∨ (q1 = true ∧ q2 = false) ∨ (q1 = false)
  | true, true => .inl ⟨rfl, rfl⟩
  | true, false => .inr (.inl ⟨rfl, rfl⟩)
  | false, _ => .inr (.inr rfl)
set_option maxHeartbeats 4000000 in
set_option maxRecDepth 100000 in
theorem defined_any {w : World} {C m1 m2 n : Nat} {pv : List Value} {blv idv : Value} {d : Defs} {g : List (List Nat)} (hc : ChkAt w C m1 m2 pv blv idv n d) (hv : ValidG g) (hr : ∀ x, x < g.length → Reach (GE g) x) (hgl : g.length ≤ 2000000)
    (hid : IntsIn w w.heap.size idv (idomL g)) (hd : ∀ v b, d.1 v = some b → 0 ≤ b ∧ b.toNat < g.length) {l : List Int} {lv : Value} (hl : IntsIn w w.heap.size lv l) (i : Nat) (hi : i < g.length) (k : Int) (hk : I64 k) :
    Calls Try.prog 69 #[.pointer (some ⟨C, 0, none⟩), lv, .int .i64 (i : Int), .int .i64 k] w (RetBool w (l.all (knownF d g i k))) := by
  obtain ⟨la, lc, rfl, hlc, hlm⟩ := hl.form
  obtain ⟨da, dc, rfl, hdc, hdm⟩ := hid.form
  rw [idomL_len] at hid hdc hc
  have hll : l.length ≤ 9223372036854775807 := by omega
  obtain ⟨hb, hpl, hm1, hm2, hne, hdm2⟩ := hc
  obtain ⟨p0, p1, p2, p3, p4, p5, rfl⟩ : ∃ a b c d e f, pv = [a, b, c, d, e, f] := by
    match pv, hpl with
    | [a, b, c, d, e, f], _ => exact ⟨a, b, c, d, e, f, rfl⟩
  have cm1 : w.cell? ⟨C, 7, none⟩ = some (.map (some m1)) := cell_of_blk hb rfl
  have cm2 : w.cell? ⟨C, 8, none⟩ = some (.map (some m2)) := cell_of_blk hb rfl
  have cid : w.cell? ⟨C, 9, none⟩ = some (.slice da g.length dc) := cell_of_blk hb rfl
  have HC := Lib.hid (show MapPI w m1 n d.1 ∧ MapPI w m2 n d.2 ∧ (∀ x, (d.1 x).isSome = (d.2 x).isSome) ∧ ValidG g ∧ (∀ x, x < g.length → Reach (GE g) x) ∧ (∀ v b, d.1 v = some b → 0 ≤ b ∧ b.toNat < g.length) ∧ i < g.length from ⟨hm1, hm2, hdm2, hv, hr, hd, hi⟩)
  have HL := Lib.hid (show IntsIn w w.heap.size (.slice la l.length lc) l ∧ IntsIn w w.heap.size (.slice da g.length dc) (idomL g) from ⟨hl, hid⟩)
  obtain ⟨res, hres⟩ : ∃ x, l.all (knownF d g i k) = x := ⟨_, rfl⟩
  rw [hres]
  have HRES := Lib.hid hres
  clear hres hb hm1 hm2 hne hdm2 hv hr hd hi hl hid hlc hlm hdc hdm
  go_enter Try.func69, Try.ntmps69
  generalize hW0 : w = W0 at *
  clear hW0
  go_wp2
  go_loopw [16] (fun jv wx => ∃ j : Nat, j ≤ l.length ∧ jv = .int .i64 (j : Int) ∧ wx = W0 ∧ Hid ((l.take j).all (knownF d g i k) = true)) (fun jv _ => l.length - (intOf jv).toNat)
  case atStart => exact ⟨0, Nat.zero_le _, rfl, rfl, by rfl⟩
  case round =>
    obtain ⟨j, hj, rfl, rfl, HJ⟩ := hrel
    generalize hWW : wr = W0 at *
    clear hWW
    by_cases hlt : j < l.length
    · have hltI : (j : Int) < l.length := by omega
      have HLT := Lib.hid hlt
      obtain ⟨v, hvv⟩ : ∃ v, l[j]? = some v := ⟨_, List.getElem?_eq_getElem hlt⟩
      obtain ⟨b, o, rfl, hb, hcell, hv64⟩ := HL.out.1.get hvv
      rw [Nat.mul_one] at hcell
      have hlk := HC.out.1.lookOk hv64
      have hl2 := HC.out.2.1.look hv64
      have HT := Lib.hid (show (l.take (j + 1)).all (knownF d g i k) = ((l.take j).all (knownF d g i k) && knownF d g i k v) ∧ (knownF d g i k v = false → l.all (knownF d g i k) = false) from ⟨all_takeI_succ _ hvv, fun h => all_false_at _ hvv h⟩)
      clear hvv hb hlt
      cases h1 : d.1 v with
      | none =>
        rw [h1] at hlk
        have HN := Lib.hid (show knownF d g i k v = false by unfold knownF; rw [h1])
        clear h1 hl2
        go_wp2
        go_ret
        exact ⟨retb (HRES.out.symm.trans (HT.out.2 HN.out)), Below.refl _ _⟩
      | some bz =>
        obtain ⟨az, h2⟩ : ∃ a, d.2 v = some a := by
          have := HC.out.2.2.1 v
          rw [h1] at this
          cases h : d.2 v with
          | none => rw [h] at this; cases this
          | some a => exact ⟨a, rfl⟩
        obtain ⟨hb0, hb1⟩ := HC.out.2.2.2.2.2.1 v bz h1
        obtain ⟨db, rfl⟩ : ∃ m : Nat, bz = (m : Int) := ⟨bz.toNat, by omega⟩
        rw [Int.toNat_natCast] at hb1
        rw [h1] at hlk
        rw [h2] at hl2
        simp only [Option.getD_some, Option.isSome_some] at hlk hl2
        have hkn : knownF d g i k v = (!(decide ((db : Int) = (i : Int)) && decide (k ≤ az)) && domsB g db i) := by unfold knownF; rw [h1, h2]; rfl
        obtain ⟨q1, hq1⟩ : ∃ q, decide ((db : Int) = (i : Int)) = q := ⟨_, rfl⟩
        obtain ⟨q2, hq2⟩ : ∃ q, decide (k ≤ az) = q := ⟨_, rfl⟩
        rw [hq1, hq2] at hkn
        have t1 : (db == i) = q1 := by rw [← hq1]; simp only [Bool.beq_eq_decide_eq, Int.natCast_inj]
        have t1I : ((db : Int) == (i : Int)) = q1 := beq_of hq1
        have t1d : decide (db = i) = q1 := bool_of hq1 (by omega)
        have HK := Lib.hid (show knownF d g i k v = (!(q1 && q2) && domsB g db i) ∧ db < g.length from ⟨hkn, hb1⟩)
        clear h1 h2 hkn hb0 hb1 hq1
        rcases case_dfd q1 q2 with ⟨rfl, rfl⟩ | ⟨rfl, rfl⟩ | rfl
        · have HN := Lib.hid (show knownF d g i k v = false from HK.out.1)
          go_wp2
          go_ret
          exact ⟨retb (HRES.out.symm.trans (HT.out.2 HN.out)), Below.refl _ _⟩
        all_goals (
          have HN := Lib.hid (show knownF d g i k v = domsB g db i from by rw [HK.out.1]; rfl)
          have HC0 := Lib.hid (show ChainTo g db i (i : Int) from .inr ⟨i, rfl, HC.out.2.2.2.2.2.2, rfl⟩)
          go_wp2
          go_loopw [13] (fun xv wx => ∃ x : Int, xv = .int .i64 x ∧ W0 = wx ∧ Hid (ChainTo g db i x)) (fun xv _ => chainM g (intOf xv))
          case atStart => exact ⟨_, rfl, rfl, HC0⟩
          case round =>
            obtain ⟨x, rfl, rfl, HX⟩ := hrel
            rcases HX.out with ⟨rfl, hno⟩ | ⟨c, rfl, hcl, hce⟩
            · have u1 : ((-1 : Int) != (db : Int)) = true := by rw [bne_iff_ne]; omega
              have HF := Lib.hid (HN.out.trans hno)
              clear hno
              go_wp2
              go_ret
              exact ⟨retb (HRES.out.symm.trans (HT.out.2 HF.out)), Below.refl _ _⟩
            · by_cases hcd : c = db
              · subst hcd
                have HY := Lib.hid (show knownF d g i k v = true by rw [HN.out, ← hce]; exact domsB_self HC.out.2.2.2.1 HC.out.2.2.2.2.1 hcl)
                have u1 : ((c : Int) != (c : Int)) = false := by rw [bne_eq_false_iff_eq]
                clear hce hcl t1 t1I t1d
                go_wp2
                go_roundw
                case rel => exact ⟨j + 1, HLT.out, by go_num, by trivial, Lib.hid (by rw [HT.out.1, HJ.out, HY.out]; rfl)⟩
                case measure => have := HLT.out; simp [intOf]; omega
              · have u1 : ((c : Int) != (db : Int)) = true := by rw [bne_iff_ne]; omega
                have u2 : ((c : Int) != -1) = true := by rw [bne_iff_ne]; omega
                obtain ⟨y, hy, hy1, hy2⟩ := chain_next HC.out.2.2.2.1 HC.out.2.2.2.2.1 hcl hce hcd
                obtain ⟨b9, o9, rfl, hb9, hc9, _⟩ := HL.out.2.get hy
                rw [Nat.mul_one] at hc9
                have HY := Lib.hid (And.intro hy1 hy2)
                have hclI : (c : Int) < g.length := by omega
                clear hce hcd hy hy1 hy2 hb9
                go_wp2
                go_roundw
                case rel => exact ⟨y, rfl, by trivial, Lib.hid HY.out.1⟩
                case measure => have := HY.out.2; simpa [intOf] using this)
    · obtain rfl : j = l.length := by omega
      have hltI : ¬ (l.length : Int) < l.length := by omega
      have hall := HJ.out
      rw [List.take_length] at hall
      have HA := Lib.hid hall
      clear hlt hall
      go_wp2
      go_ret
      exact ⟨retb (HRES.out.symm.trans HA.out), Below.refl _ _⟩
end Go.Proofs.Ytojclalkfhoooaa
set_option linter.unusedVariables false
set_option linter.unusedSimpArgs false
set_option maxRecDepth 8000
namespace Go.Proofs.Ytojclalkfhoooaa
open Go.RowKit Go.Shelf

/-- A valid graph in memory. -/
structure GraphIn (w : World) (sv : Value) (g : List (List Nat)) : Prop where
  rows : RowsOf encNat w w.heap.size sv g
  valid : ValidG g
  len : g.length ≤ 2000000
  row : ∀ row ∈ g, row.length ≤ 2000000
theorem GraphIn.below {w w' : World} {sv : Value} {g : List (List Nat)} (h : GraphIn w sv g) (hb : Below w.heap.size w w') : GraphIn w' sv g :=
  ⟨(h.rows.below hb).mono hb.size, h.valid, h.len, h.row⟩

theorem ans_valid {w : World} {sv : Value} {g : List (List Nat)} (h : GraphIn w sv g) : Calls Try.prog 100 #[.agg #[sv]] w fun e w' => e = .returned (.bool true) ∧ Below w.heap.size w w' :=
  flow_valid_nat w sv g w.heap.size (Nat.le_refl _) h.rows h.valid h.len h.row
theorem ans_order {w : World} {sv : Value} {g : List (List Nat)} (h : GraphIn w sv g) : Calls Try.prog 68 #[.agg #[sv]] w (RetNats w (orderL g)) := by
  obtain ⟨ns, hO⟩ := ordF h.valid
  rw [hO.eq]
  exact flow_order_is w sv g w.heap.size (Nat.le_refl _) h.rows h.valid h.len h.row (0 :: ns) hO.is
theorem ans_dominators {w : World} {sv : Value} {g : List (List Nat)} (h : GraphIn w sv g) : Calls Try.prog 67 #[.agg #[sv]] w (RetInts w (idomL g)) := by
  obtain ⟨ns, hO⟩ := ordF h.valid
  obtain ⟨D, hD⟩ := hO.dom
  rw [← idom_eq h.valid hO hD]
  exact flow_dominators_is w sv g w.heap.size (Nat.le_refl _) h.rows h.valid h.len h.row ns hO.is D hD.of
theorem ans_from {w : World} {sv : Value} {g : List (List Nat)} (h : GraphIn w sv g) (fr : Nat) (hfr : fr < g.length) (out : Int) : Calls Try.prog 106 #[.agg #[sv], .int .i64 (fr : Int), .int .i64 out] w (RetBools w (fromL g fr out)) :=
  from_any w sv g w.heap.size (Nat.le_refl _) h.rows h.valid h.len h.row fr hfr out _ (fromL_of h.valid fr hfr out)

end Go.Proofs.Ytojclalkfhoooaa
set_option linter.unusedVariables false
set_option linter.unusedSimpArgs false
namespace Go.Proofs.Ytojclalkfhoooaa
open Go.RowKit

/-- What a valid function's operations and edges have. -/
theorem op_args {p : IProg} (ha : p.args.all argOk = true) {o : IOp} (h : opF p o = true) : o.args.length ≤ 1000000000000 := by
  unfold opF at h
  rw [Bool.and_eq_true] at h
  have hget : ∀ i, p.args.getD i 0 ≤ 8 := by
    intro i
    rw [List.getD_eq_getElem?_getD]
    cases hx : p.args[i]? with
    | none => simp
    | some x =>
      have := List.all_eq_true.1 ha x (List.mem_of_getElem? hx)
      unfold argOk at this
      simp only [Bool.and_eq_true, decide_eq_true_eq] at this
      exact this.2
  have h2 := h.2
  split at h2
  · simp only [Bool.and_eq_true, decide_eq_true_eq] at h2
    have := hget o.a.toNat
    omega
  · split at h2
    · simp only [Bool.and_eq_true, decide_eq_true_eq] at h2
      omega
    · simp only [Bool.and_eq_true, decide_eq_true_eq] at h2
      omega
theorem blkAt_mem {blocks : List IBlk} {e : IEdge} (h : edgeF blocks e = true) : blkAt blocks e.block ∈ blocks ∧ e.args.length = (blkAt blocks e.block).params.length ∧ 1 ≤ e.block ∧ e.block.toNat < blocks.length := by
  unfold edgeF at h
  simp only [Bool.and_eq_true, decide_eq_true_eq] at h
  refine ⟨?_, h.2, h.1.1, by omega⟩
  unfold blkAt
  rw [List.getD_eq_getElem?_getD, List.getElem?_eq_getElem (by omega), Option.getD_some]
  exact List.getElem_mem _
theorem term_edges {blocks : List IBlk} (hs : SizedF blocks) {t : ITerm} (h : termF blocks t = true) : ∀ e ∈ t.to, e.args.length ≤ 2000000 := by
  intro e he
  unfold termF at h
  rw [Bool.and_eq_true] at h
  obtain ⟨h1, h2, _⟩ := blkAt_mem (List.all_eq_true.1 h.1 e he)
  rw [h2]
  exact (hs.2 _ h1).1
theorem graphF_valid {blocks : List IBlk} (hne : blocks ≠ []) (h : ∀ b ∈ blocks, termF blocks b.term = true) : ValidG (graphF blocks) := by
  refine ⟨by unfold graphF; rw [List.length_map]; exact List.length_pos_iff.2 hne, fun l hl s hs => ?_⟩
  unfold graphF at hl
  obtain ⟨b, hb, rfl⟩ := List.mem_map.1 hl
  obtain ⟨e, he, rfl⟩ := List.mem_map.1 hs
  have ht := h b hb
  unfold termF at ht
  rw [Bool.and_eq_true] at ht
  have := (blkAt_mem (List.all_eq_true.1 ht.1 e he)).2.2.2
  unfold graphF
  rw [List.length_map]
  exact this
theorem graphI_F {blocks : List IBlk} (h : ∀ b ∈ blocks, termF blocks b.term = true) : graphI blocks = (graphF blocks).map (List.map (fun n : Nat => (n : Int))) := by
  unfold graphI graphF rowI
  rw [List.map_map]
  refine List.map_congr_left fun b hb => ?_
  show b.term.to.map (·.block) = (b.term.to.map fun e => e.block.toNat).map (fun n : Nat => (n : Int))
  rw [List.map_map]
  refine List.map_congr_left fun e he => ?_
  have ht := h b hb
  unfold termF at ht
  rw [Bool.and_eq_true] at ht
  have := (blkAt_mem (List.all_eq_true.1 ht.1 e he)).2.2.1
  show e.block = ((e.block.toNat : Nat) : Int)
  omega
theorem graph_in {w : World} {sv : Value} {blocks : List IBlk} (hs : SizedF blocks) (hne : blocks ≠ []) (h : ∀ b ∈ blocks, termF blocks b.term = true) (hr : RowsOf encInt w w.heap.size sv (graphI blocks)) : GraphIn w sv (graphF blocks) := by
  rw [graphI_F h] at hr
  refine ⟨(RowsOf.map (fun n : Nat => (n : Int)) (fun x => rfl)).1 hr, graphF_valid hne h, by unfold graphF; rw [List.length_map]; exact hs.1, fun row hrow => ?_⟩
  unfold graphF at hrow
  obtain ⟨b, hb, rfl⟩ := List.mem_map.1 hrow
  rw [List.length_map]
  exact (hs.2 b hb).2.2
theorem graphF_len (blocks : List IBlk) : (graphF blocks).length = blocks.length := by simp [graphF]
theorem nodup_le : ∀ {l m : List Nat}, l.Nodup → (∀ x ∈ l, x ∈ m) → l.length ≤ m.length
  | [], m, _, _ => Nat.zero_le _
  | a :: l, m, hl, h => by
    obtain ⟨ha, hl⟩ := List.nodup_cons.1 hl
    have hm := h a (List.mem_cons_self ..)
    have h2 := nodup_le (m := m.erase a) hl (fun x hx => (List.mem_erase_of_ne (fun e => ha (by rw [← e]; exact hx))).2 (h x (List.mem_cons_of_mem _ hx)))
    rw [List.length_erase_of_mem hm] at h2
    have := List.length_pos_of_mem hm
    rw [List.length_cons]; omega
theorem order_all {g : List (List Nat)} (hv : ValidG g) (h : (orderL g).length = g.length) : ∀ x, x < g.length → Reach (GE g) x := by
  obtain ⟨ns, hO⟩ := ordF hv
  rw [hO.eq] at h
  intro x hx
  refine (hO.mem x).1 ?_
  apply Classical.byContradiction
  intro hn
  have hle := nodup_le (l := x :: 0 :: ns) (m := List.range g.length) (List.nodup_cons.2 ⟨hn, hO.nodup⟩) (fun y hy => by
    rcases List.mem_cons.1 hy with rfl | hy
    · exact List.mem_range.2 hx
    · exact List.mem_range.2 (hO.lt y hy))
  rw [List.length_cons, h, List.length_range] at hle
  omega
/-- The blocks that definitions name. -/
theorem defF_blk {d d' : Defs} {v i k : Int} (h : defF d v i k = some d') {m : Nat} (hi : 0 ≤ i ∧ i.toNat < m) (hd : ∀ x b, d.1 x = some b → 0 ≤ b ∧ b.toNat < m) : ∀ x b, d'.1 x = some b → 0 ≤ b ∧ b.toNat < m := by
  unfold defF at h
  split at h
  · cases h
  · cases h
    intro x b hb
    change putP d.1 v i x = some b at hb
    unfold putP at hb
    split at hb
    · cases hb; exact hi
    · exact hd x b hb
theorem parsF_blk {i : Int} {m : Nat} (hi : 0 ≤ i ∧ i.toNat < m) : ∀ (l : List Int) (d d' : Defs), parsF i l d = some d' → (∀ x b, d.1 x = some b → 0 ≤ b ∧ b.toNat < m) → ∀ x b, d'.1 x = some b → 0 ≤ b ∧ b.toNat < m
  | [], d, d', h, hd => by cases h; exact hd
  | v :: l, d, d', h, hd => by
    unfold parsF at h
    cases h1 : defF d v i (-1) with
    | none => rw [h1] at h; cases h
    | some d1 => rw [h1, Option.bind_some] at h; exact parsF_blk hi l d1 d' h (defF_blk h1 hi hd)
theorem opsF_blk {p : IProg} {i : Int} {m : Nat} (hi : 0 ≤ i ∧ i.toNat < m) : ∀ (l : List IOp) (k : Int) (d d' : Defs), opsF p i l k d = some d' → (∀ x b, d.1 x = some b → 0 ≤ b ∧ b.toNat < m) → ∀ x b, d'.1 x = some b → 0 ≤ b ∧ b.toNat < m
  | [], k, d, d', h, hd => by cases h; exact hd
  | o :: l, k, d, d', h, hd => by
    rw [opsF_cons] at h
    cases h1 : opStep p i k o d with
    | none => rw [h1] at h; cases h
    | some d1 =>
      rw [h1, Option.bind_some] at h
      refine opsF_blk hi l _ d1 d' h ?_
      unfold opStep at h1
      split at h1
      · split at h1
        · exact defF_blk h1 hi hd
        · cases h1; exact hd
      · cases h1
theorem blksF_blk {p : IProg} {bl : List IBlk} {m : Nat} : ∀ (l : List IBlk) (i : Nat) (d d' : Defs), i + l.length ≤ m → blksF p bl l i d = some d' → (∀ x b, d.1 x = some b → 0 ≤ b ∧ b.toNat < m) → ∀ x b, d'.1 x = some b → 0 ≤ b ∧ b.toNat < m
  | [], i, d, d', _, h, hd => by cases h; exact hd
  | b :: l, i, d, d', hm, h, hd => by
    simp only [List.length_cons] at hm
    unfold blksF at h
    cases h1 : blkF p bl i b d with
    | none => rw [h1] at h; cases h
    | some d1 =>
      rw [h1, Option.bind_some] at h
      obtain ⟨_, d2, h2, h3⟩ := blkF_term h1
      have hi : 0 ≤ (i : Int) ∧ ((i : Int)).toNat < m := by omega
      exact blksF_blk l (i + 1) d1 d' (by omega) (by simpa using h) (opsF_blk hi _ _ _ _ h3 (parsF_blk hi _ _ _ h2 hd))
theorem shapesF_blk {p : IProg} {bl : List IBlk} {d : Defs} (h : shapesF p bl = some d) : ∀ x b, d.1 x = some b → 0 ≤ b ∧ b.toNat < bl.length :=
  blksF_blk bl 0 noDefs d (by omega) h (fun x b hb => by cases hb)
theorem bodyOpsF_append (d : Defs) (g : List (List Nat)) (i : Int) : ∀ (l m : List IOp) (k : Int), bodyOpsF d g i (l ++ m) k = (bodyOpsF d g i l k && bodyOpsF d g i m (k + l.length))
  | [], m, k => by simp [bodyOpsF]
  | o :: l, m, k => by
    have e : k + 1 + (l.length : Int) = k + ((o :: l).length : Int) := by simp; omega
    show ((usesF o).all (knownF d g i k) && bodyOpsF d g i (l ++ m) (k + 1)) = (((usesF o).all (knownF d g i k) && bodyOpsF d g i l (k + 1)) && _)
    rw [bodyOpsF_append d g i l m, e, Bool.and_assoc]
theorem bodyF_append (d : Defs) (g : List (List Nat)) : ∀ (l m : List IBlk) (i : Int), bodyF d g (l ++ m) i = (bodyF d g l i && bodyF d g m (i + l.length))
  | [], m, i => by simp [bodyF]
  | b :: l, m, i => by
    have e : i + 1 + (l.length : Int) = i + ((b :: l).length : Int) := by simp; omega
    show (bodyBlkF d g b i && bodyF d g (l ++ m) (i + 1)) = ((bodyBlkF d g b i && bodyF d g l (i + 1)) && _)
    rw [bodyF_append d g l m, e, Bool.and_assoc]
theorem bodyOpsF_step {d : Defs} {g : List (List Nat)} {i : Int} {l : List IOp} {k : Nat} {o : IOp} (h : l[k]? = some o) : bodyOpsF d g i (l.take (k + 1)) 0 = (bodyOpsF d g i (l.take k) 0 && (usesF o).all (knownF d g i k)) := by
  rw [List.take_add_one, h, Option.toList, bodyOpsF_append, take_len h, Int.zero_add]
  simp [bodyOpsF]
theorem bodyOpsF_fail {d : Defs} {g : List (List Nat)} {i : Int} {l : List IOp} {k : Nat} {o : IOp} (h : l[k]? = some o) (hf : (usesF o).all (knownF d g i k) = false) : bodyOpsF d g i l 0 = false := by
  rw [split_at h, bodyOpsF_append, take_len h, Int.zero_add]
  show (_ && ((usesF o).all (knownF d g i k) && _)) = false
  rw [hf, Bool.false_and, Bool.and_false]
theorem bodyF_step {d : Defs} {g : List (List Nat)} {l : List IBlk} {k : Nat} {b : IBlk} (h : l[k]? = some b) : bodyF d g (l.take (k + 1)) 0 = (bodyF d g (l.take k) 0 && bodyBlkF d g b k) := by
  rw [List.take_add_one, h, Option.toList, bodyF_append, take_len h, Int.zero_add]
  simp [bodyF]
theorem bodyF_fail {d : Defs} {g : List (List Nat)} {l : List IBlk} {k : Nat} {b : IBlk} (h : l[k]? = some b) (hf : bodyBlkF d g b k = false) : bodyF d g l 0 = false := by
  rw [split_at h, bodyF_append, take_len h, Int.zero_add]
  show (_ && (bodyBlkF d g b k && _)) = false
  rw [hf, Bool.false_and, Bool.and_false]
/-- The checker as function builds it. -/
theorem ChkAt.made {w : World} {C m1 m2 : Nat} {pv : List Value} {blv idv : Value} (hC : w.heap[C]? = some (.cells (pv ++ [blv, .map (some m1), .map (some m2), idv]).toArray 128 (0, 0))) (hl : pv.length = 6) (h1 : w.heap[m1]? = some (.map #[] 0)) (h2 : w.heap[m2]? = some (.map #[] 0)) (hne : m1 ≠ m2) :
    ChkAt w C m1 m2 pv blv idv 0 noDefs := by
  have hm : ∀ m, w.heap[m]? = some (.map #[] 0) → MapPI w m 0 (fun _ => none) := fun m h => by
    have h0 := MapPI.made ({ w with heap := w.heap.extract 0 m })
    have hsz : m < w.heap.size := lt_of_block h
    have hs : (w.heap.extract 0 m).size = m := by simp; omega
    obtain ⟨D, ⟨es, clock, k1, k2⟩, k3⟩ := h0
    have e1 : (World.alloc { w with heap := w.heap.extract 0 m } (.map #[] 0)).heap[(w.heap.extract 0 m).size]? = some (.map #[] 0) := new_at rfl
    rw [e1] at k1
    cases k1
    exact ⟨D, ⟨_, _, h, k2⟩, k3⟩
  exact ⟨hC, hl, hm m1 h1, hm m2 h2, hne, fun _ => rfl⟩
theorem ChkAt.idom {w : World} {C m1 m2 n : Nat} {pv : List Value} {blv idv : Value} {d : Defs} (h : ChkAt w C m1 m2 pv blv idv n d) (iv : Value) : ChkAt (w.setCell ⟨C, 9, none⟩ iv) C m1 m2 pv blv iv n d := by
  obtain ⟨k1, k2⟩ := h.ne1
  refine ⟨?_, h.plen, h.map1.same (Below.heap_setCell _ _ _ _ (Ne.symm k1)), h.map2.same (Below.heap_setCell _ _ _ _ (Ne.symm k2)), h.ne, h.dom⟩
  rw [heap_setCell_self h.blk]
  have hl := h.plen
  obtain ⟨p0, p1, p2, p3, p4, p5, rfl⟩ : ∃ a b c d e f, pv = [a, b, c, d, e, f] := by
    match pv, hl with
    | [a, b, c, d, e, f], _ => exact ⟨a, b, c, d, e, f, rfl⟩
  rfl
end Go.Proofs.Ytojclalkfhoooaa
