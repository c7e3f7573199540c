/-
  The walk of the reference's Made.
-/
import Derived.Test.YtpfinkcnklkclaaMod
import Derived.Laws.Small
import Derived.Test.YtpfinkcnklkclaaRowMem
import Derived.Test.YtpfinkcnklkclaaMath
import Derived.Test.YtpfinkcnklkclaaAns
set_option linter.unusedVariables false
set_option linter.unusedSimpArgs false
namespace Go.Proofs.Ytpfinkcnklkclaa
open Go.RowKit

/-- A slice of pairs of whole numbers. -/
def PairsOf (w : World) (B : Nat) (v : Value) (l : List (Int × Int)) : Prop :=
  ∃ (a : Option Addr) (cap : Nat), v = .slice a l.length cap ∧ l.length ≤ cap ∧ ∀ (k : Nat) (p : Int × Int), l[k]? = some p → ∃ b o, a = some ⟨b, o, none⟩ ∧ b < B ∧ w.cell? ⟨b, o + k * 2, none⟩ = some (.int .i64 p.1) ∧ w.cell? ⟨b, o + k * 2 + 1, none⟩ = some (.int .i64 p.2)

def madeN (l : List (Int × Int)) : Nat := 1 + ((l.headD (0, 0)).1 % ((min 20 (l.length + 1) : Nat) : Int)).toNat
/-- Int64 range. -/
def I64 (n : Int) : Prop := -9223372036854775808 ≤ n ∧ n ≤ 9223372036854775807

/-- The second end of an edge: u, s0 the two numbers modulo n. -/
def madeS (n u s0 : Nat) (x2 : Int) : Nat := if (bits BinOp.and IntKind.i64 x2 3 != 0) = true then (u + 1 + (x2 / 4 % 4).toNat - 1) % n else s0
def madeStep (n : Nat) (R : List (List Nat)) (p : Int × Int) : List (List Nat) := addEdge (madeS n (p.1 % (n : Int)).toNat (p.2 % (n : Int)).toNat p.2) R (p.1 % (n : Int)).toNat
def made2 (x : Int) (R : List (List Nat)) (u : Nat) : List (List Nat) := if R.getD u [] = [] ∧ (bits BinOp.and IntKind.i64 x 1 == 0) = true then addEdge (u + 1) R u else R
/-- The graph that pairs of numbers determine. -/
def madeL (l : List (Int × Int)) : List (List Nat) := match l with
  | [] => [[]]
  | p0 :: l' => (List.range (madeN (p0 :: l') - 1)).foldl (made2 p0.2) (l'.foldl (madeStep (madeN (p0 :: l'))) (List.replicate (madeN (p0 :: l')) []))
theorem madeL_cons (p0 : Int × Int) (l : List (Int × Int)) : madeL (p0 :: l) = (List.range (madeN (p0 :: l) - 1)).foldl (made2 p0.2) (l.foldl (madeStep (madeN (p0 :: l))) (List.replicate (madeN (p0 :: l)) [])) := rfl
def RetGraph (w : World) (g : List (List Nat)) (e : Ending) (w' : World) : Prop := ∃ bp, e = .returned (.agg #[.slice (some ⟨bp, 0, none⟩) g.length g.length]) ∧ w.heap.size ≤ bp ∧ OwnRows encNat 3 29 w' w.heap.size bp g ∧ (ValidG g ∧ g.length ≤ 2000000 ∧ ∀ row ∈ g, row.length ≤ 2000000) ∧ Below w.heap.size w w'
theorem graph_own {w : World} {B bp : Nat} {g : List (List Nat)} (h : OwnRows encNat 3 29 w B bp g) (hg : ValidG g ∧ g.length ≤ 2000000 ∧ ∀ row ∈ g, row.length ≤ 2000000) : GraphIn w (.slice (some ⟨bp, 0, none⟩) g.length g.length) g :=
  ⟨h.asRows (Nat.le_refl _), hg.1, hg.2.1, hg.2.2⟩
theorem addEdge_ok {n x s : Nat} {R : List (List Nat)} (hx : x < n) (h : R.length = n ∧ ∀ r ∈ R, ∀ y ∈ r, y < n) : (addEdge x R s).length = n ∧ ∀ r ∈ addEdge x R s, ∀ y ∈ r, y < n := by
  refine ⟨by simpa [addEdge] using h.1, fun r hr y hy => ?_⟩
  unfold addEdge at hr
  rcases List.mem_or_eq_of_mem_set hr with hr | rfl
  · exact h.2 r hr y hy
  · rcases List.mem_append.1 hy with hy | hy
    · rw [List.getD_eq_getElem?_getD] at hy
      cases e : R[s]? with
      | none => rw [e] at hy; simp at hy
      | some l => rw [e] at hy; exact h.2 l (List.mem_of_getElem? e) y hy
    · simp at hy; omega
theorem foldl_inv {α β : Type} (P : β → Prop) (f : β → α → β) : ∀ (l : List α) (b : β), P b → (∀ b a, a ∈ l → P b → P (f b a)) → P (l.foldl f b)
  | [], _, h, _ => h
  | a :: l, b, h, hf => foldl_inv P f l (f b a) (hf b a (by simp) h) (fun b x hx hb => hf b x (by simp [hx]) hb)
theorem madeL_valid (l : List (Int × Int)) : ValidG (madeL l) := by
  cases l with
  | nil => exact ⟨by simp [madeL], by simp [madeL]⟩
  | cons p0 l =>
    have hN : 0 < madeN (p0 :: l) := by unfold madeN; omega
    generalize hn : madeN (p0 :: l) = n at hN
    have h0 : (List.replicate n ([] : List Nat)).length = n ∧ ∀ r ∈ List.replicate n ([] : List Nat), ∀ y ∈ r, y < n := ⟨by simp, fun r hr y hy => by rw [(List.mem_replicate.1 hr).2] at hy; simp at hy⟩
    have h1 := foldl_inv (fun R : List (List Nat) => R.length = n ∧ ∀ r ∈ R, ∀ y ∈ r, y < n) (madeStep n) l _ h0 (fun R p _ hR => by
      unfold madeStep
      refine addEdge_ok ?_ hR
      unfold madeS
      split
      · exact Nat.mod_lt _ hN
      · have := Int.emod_nonneg p.2 (show (n : Int) ≠ 0 by omega)
        have := Int.emod_lt_of_pos p.2 (show 0 < (n : Int) by omega)
        omega)
    have h2 := foldl_inv (fun R : List (List Nat) => R.length = n ∧ ∀ r ∈ R, ∀ y ∈ r, y < n) (made2 p0.2) (List.range (n - 1)) _ h1 (fun R u hu hR => by
      unfold made2
      split
      · exact addEdge_ok (by have := List.mem_range.1 hu; omega) hR
      · exact hR)
    have e : madeL (p0 :: l) = (List.range (n - 1)).foldl (made2 p0.2) (l.foldl (madeStep n) (List.replicate n [])) := by rw [madeL_cons, hn]
    rw [e]
    exact ⟨by rw [h2.1]; exact hN, fun r hr y hy => by rw [h2.1]; exact h2.2 r hr y hy⟩
structure MadeMem (w0 w : World) (S n m : Nat) (R : List (List Nat)) : Prop where
  hg : w.heap[S + 2]? = some (.cells #[.slice (some ⟨S + 1, 0, none⟩) n n] 24 (0, 0))
  hr : OwnRows encNat 3 29 w S (S + 1) R
  hl : R.length = n
  hrl : ∀ row ∈ R, row.length ≤ m
  hb : Below S w0 w
  hs : w.heap[S]? = some (.cells #[.slice none 0 0] 24 (0, 0))

theorem MadeMem.mono {w0 w : World} {S n m m' : Nat} {R : List (List Nat)} (h : MadeMem w0 w S n m R) (hm : m ≤ m') : MadeMem w0 w S n m' R :=
  ⟨h.hg, h.hr, h.hl, fun r hr => Nat.le_trans (h.hrl r hr) hm, h.hb, h.hs⟩
theorem MadeMem.push {w0 w w2 : World} {S n m s x g cap' H cap : Nat} {R : List (List Nat)} {row : List Nat} {a : Option Addr} {o : Obj} (h : MadeMem w0 w S n m R) (hs : R[s]? = some row)
    (hc : w.cell? ⟨S + 1, s, none⟩ = some (.slice a row.length cap)) (hg : (w.alloc o).grownBy w2 (Value.slice a row.length cap).ownBlock)
    (hown : w2.ownsRow S 3 1 (.slice (some ⟨g, 0, none⟩) (row.length + 1) cap') (row.length + 1) (row.map encNat ++ [encNat x])) (hat : (Value.slice a row.length cap).ownBlock = some g ∨ g = H) (hH : w.heap.size ≤ H) :
    MadeMem w0 (w2.setCell ⟨S + 1, s, none⟩ (.slice (some ⟨g, 0, none⟩) (row.length + 1) cap')) S n (m + 1) (R.set s (row ++ [x])) := by
  obtain ⟨h1, h2, h3, h3l, h4, h5⟩ := h
  obtain ⟨a', cap2, hc', hor, _⟩ := h2.get hs
  rw [hc] at hc'
  cases hc'
  have n1 := ownsRow_block_ne hor h1 (.inr (by decide))
  have n2 := ownsRow_block_ne hor h5 (.inr (by decide))
  have hput := h2.put (by decide) hs hc hg (row' := row ++ [x]) (by simpa using hown) hat hH
  simp only [List.length_append, List.length_cons, List.length_nil, Nat.zero_add] at hput
  have l1 := lt_of_block h1
  exact ⟨set_blk (grown_blk hg (alloc_blk h1) n1) (by simp), hput, by simpa using h3, fun r hr => by (rcases List.mem_or_eq_of_mem_set hr with hr | rfl; exact Nat.le_succ_of_le (h3l r hr); simpa using h3l row (List.mem_of_getElem? hs)), ((h4.alloc (by omega) o).grown hg (by simp; omega) (fun k hk => (hor.lt k hk).1)).setCell (show S ≤ S + 1 by omega) _, set_blk (grown_blk hg (alloc_blk h5) n2) (by simp)⟩

theorem emod_nat (x : Int) (N : Nat) (hN : 0 < N) : ∃ u : Nat, x % (N : Int) = (u : Int) ∧ u < N :=
  ⟨(x % (N : Int)).toNat, by have := Int.emod_nonneg x (show (N : Int) ≠ 0 by omega); omega, by have := Int.emod_nonneg x (show (N : Int) ≠ 0 by omega); have := Int.emod_lt_of_pos x (show 0 < (N : Int) by omega); omega⟩
set_option maxRecDepth 100000 in
set_option maxHeartbeats 1600000 in
theorem made_ne (w : World) (sv : Value) (p0 : Int × Int) (l : List (Int × Int)) (h : PairsOf w w.heap.size sv (p0 :: l)) (hi : ∀ p ∈ p0 :: l, I64 p.1 ∧ I64 p.2) (hlen : (p0 :: l).length ≤ 60) :
    Calls Try.prog 44 #[sv] w (RetGraph w (madeL (p0 :: l))) := by
  obtain ⟨a, cap, rfl, hcap, hx⟩ := h
  obtain ⟨ii, hii, hzi0, hzi1, hzi2⟩ := info_parts Try.info_int
  have HI := Lib.hid hi
  obtain ⟨b, o, rfl, hb, c0, c1⟩ := hx 0 p0 rfl
  have HX := Lib.hid hx
  have hi0 := hi p0 (by simp)
  have hmk := fun n : Nat => fun h : n ≤ 20 => run_make_row' (P := Try.prog) 22 29 (.slice none 0 0) 24 Try.underlying22 Try.info_ints rfl .i64 .i64 n (by omega) (by omega)
  simp only [Nat.zero_mul, Nat.add_zero] at c0 c1
  have hlen0 : 0 < (p0 :: l).length := by simp
  have hle := hcap
  obtain ⟨L, hL⟩ : ∃ L, (p0 :: l).length = L := ⟨_, rfl⟩
  rw [hL] at hlen0 hlen hcap ⊢
  have hle0 : ((L : Int) == 0) = false := by simp; omega
  obtain ⟨mm, hmm⟩ : ∃ mm : Nat, (mm : Int) = if (L : Int) + 1 < 20 then (L : Int) + 1 else 20 := ⟨min 20 (L + 1), by split <;> omega⟩
  have hmin : ∀ (ts : Array TypeId) (t : TypeId) (W : World), (Builtin.min_ ts t #[.int .i64 20, .int .i64 ((L : Int) + 1)]).run Try.prog W = .ok (.int .i64 (mm : Int)) W := fun ts t W => by rw [hmm]; exact run_min_int2 ..
  have hmm1 : 0 < (mm : Int) ∧ (mm : Int) ≤ 1000000 := by rw [hmm]; split <;> omega
  have HMM := Lib.hid hmm
  clear hmm
  clear hi
  go_enter Try.func44, Try.ntmps44
  obtain ⟨N, hN⟩ : ∃ N : Nat, (N : Int) = 1 + p0.1 % (mm : Int) := ⟨(1 + p0.1 % (mm : Int)).toNat, by have := Int.emod_nonneg p0.1 (show (mm : Int) ≠ 0 by omega); omega⟩
  have hN20 : 0 < N ∧ N ≤ 20 := by
    have h1 := Int.emod_nonneg p0.1 (show (mm : Int) ≠ 0 by omega)
    have h2 := Int.emod_lt_of_pos p0.1 hmm1.1
    have h3 : (mm : Int) ≤ 20 := by rw [HMM.out]; split <;> omega
    omega
  have HN := Lib.hid hN
  go_upto_region 3 with fail
  go_cut [3] (fun s3 wx => s3 = .int .i64 (N : Int) ∧ wx = w.alloc (.cells #[.slice none 0 0] 24))
  case first =>
    clear hmk hx
    go_wp2_with (go_at_call 48; go_must (refine (mod_any _ p0.1 (mm : Int) hi0.1 hmm1).mono ?_; rintro e w1 ⟨rfl, rfl⟩))
    go_meet
    exact ⟨by rw [hN], rfl⟩
  case rest =>
    obtain ⟨rfl, rfl⟩ := hcut
    have hmk0 := hmk N hN20.2
    have C1 := Lib.hid c1
    clear hmk c0 c1 hmin hle0 hmm1 hN
    have HM0 : Hid (MadeMem w (((w.alloc (.cells #[.slice none 0 0] 24)).alloc (.cells (madeCells #[.slice none 0 0] N) 29)).alloc (.cells #[.slice (some ⟨w.heap.size + 1, 0, none⟩) N N] 24)) w.heap.size N 0 (List.replicate N [])) := by
      refine ⟨new_at (by simp), OwnRows.made N ?_, by simp, (by intro r hr; rw [(List.mem_replicate.1 hr).2]; simp), (((Below.refl _ w).alloc (Nat.le_refl _) _).alloc (by simp) _).alloc (by simp; omega) _, alloc_blk (alloc_blk (new_at rfl))⟩
      rw [alloc_blk (new_at (by simp)), toArray_madeCells]
    go_wp2
    go_loopw [5] (fun kv wr => ∃ k : Nat, 1 ≤ k ∧ k ≤ L ∧ kv = .int .i64 (k : Int) ∧ Hid (MadeMem w wr w.heap.size N (k - 1) ((((p0 :: l).take k).drop 1).foldl (madeStep N) (List.replicate N [])))) (fun kv _ => L - (intOf kv).toNat)
    case atStart => exact ⟨1, Nat.le_refl _, by omega, rfl, by simpa using HM0⟩
    case round =>
      obtain ⟨k, hk1, hk2, rfl, HK⟩ := hrel
      by_cases hlt : k < L
      · have hlt1 : (k : Int) < L := by omega
        have hlt2 : (k : Int) < 60 := by omega
        obtain ⟨p, hp⟩ : ∃ p, (p0 :: l)[k]? = some p := ⟨_, List.getElem?_eq_getElem (by omega)⟩
        obtain ⟨b', o', e', hb', cp0, cp1⟩ := HX.out k p hp
        cases e'
        have cq0 := (HK.out.hb.cell (p := ⟨b, o + k * 2, none⟩) hb').trans cp0
        have cq1 := (HK.out.hb.cell (p := ⟨b, o + k * 2 + 1, none⟩) hb').trans cp1
        have hip := HI.out p (List.mem_of_getElem? hp)
        obtain ⟨u, hu, hun⟩ := emod_nat p.1 N hN20.1
        obtain ⟨s0, hs0, hsn⟩ := emod_nat p.2 N hN20.1
        have hm1 : ∀ W : World, Calls Try.prog 48 #[.int .i64 p.1, .int .i64 (N : Int)] W fun e w' => e = .returned (.int .i64 (u : Int)) ∧ w' = W := fun W => by rw [← hu]; exact mod_any W p.1 N hip.1 (by omega)
        have hm2 : ∀ W : World, Calls Try.prog 48 #[.int .i64 p.2, .int .i64 (N : Int)] W fun e w' => e = .returned (.int .i64 (s0 : Int)) ∧ w' = W := fun W => by rw [← hs0]; exact mod_any W p.2 N hip.2 (by omega)
        have HU := Lib.hid hu
        have HS0 := Lib.hid hs0
        clear hu hs0
        generalize hp1 : p.1 = x1 at *
        generalize hp2 : p.2 = x2 at *
        go_upto_region 9 with (go_at_call 48; go_must (refine (hm1 _).mono ?_; rintro e w1 ⟨rfl, rfl⟩))
        go_upto_region 10 with (go_at_call 48; go_must (refine (hm2 _).mono ?_; rintro e w1 ⟨rfl, rfl⟩))
        go_upto_if 57 with fail
        have hx2 : -9223372036854775808 ≤ x2 ∧ x2 ≤ 9223372036854775807 := hip.2
        have hS1 : ∀ h : (bits BinOp.and IntKind.i64 x2 3 != 0) = true, (((u : Int) + 1 + x2 / 4 % 4 - 1) % (N : Int)) = ((madeS N u s0 x2 : Nat) : Int) := fun h => by
          have h4 := Int.emod_nonneg (x2 / 4) (show (4 : Int) ≠ 0 by decide)
          unfold madeS; rw [if_pos h]; rw [Int.natCast_emod]
          congr 1; omega
        have hS2 : ∀ h : (bits BinOp.and IntKind.i64 x2 3 != 0) = false, (s0 : Int) = ((madeS N u s0 x2 : Nat) : Int) := fun h => by
          unfold madeS; rw [if_neg (by rw [h]; simp)]
        have HS1 := Lib.hid hS1
        have HS2 := Lib.hid hS2
        clear hS1 hS2
        go_cut [7] (fun s7 wx => s7 = .int .i64 ((madeS N u s0 x2 : Nat) : Int) ∧ wx = w1)
        case first =>
          go_wp2_with (go_at_call 48; go_must (refine (mod_any _ _ _ (by first | omega | (simp; omega)) (by first | omega | (simp; omega))).mono ?_; rintro e w1 ⟨rfl, rfl⟩))
          all_goals go_meet
          · exact ⟨by rw [HS1.out ‹_›], rfl⟩
          · exact ⟨by rw [HS2.out ‹_›], rfl⟩
        case rest =>
          obtain ⟨rfl, rfl⟩ := hcut
          have HSV : Hid (∀ R, madeStep N R p = addEdge (madeS N u s0 x2) R u) := by
            intro R
            unfold madeStep
            rw [hp1, hp2, HU.out, HS0.out]
            rfl
          have hRl := HK.out.hl
          generalize hRR : List.foldl (madeStep N) (List.replicate N []) (((p0 :: l).take k).drop 1) = R at HK hRl
          obtain ⟨sv, hsv⟩ : ∃ sv, madeS N u s0 x2 = sv := ⟨_, rfl⟩
          rw [hsv] at HSV ⊢
          have HRR := Lib.hid hRR
          have hrlen := HK.out.hrl
          obtain ⟨row, hrow⟩ : ∃ row, R[u]? = some row := ⟨_, List.getElem?_eq_getElem (by omega)⟩
          have hrl : row.length ≤ k - 1 := hrlen row (List.mem_of_getElem? hrow)
          obtain ⟨ap, capp, cp, hop, fp⟩ := HK.out.hr.get hrow
          have cgr : wc.cell? ⟨w.heap.size + 1 + 1, 0, none⟩ = some (.slice (some ⟨w.heap.size + 1, 0, none⟩) N N) := cell_of_blk HK.out.hg (by simp)
          have lbg : w.heap.size + 1 + 1 < wc.heap.size := lt_of_block HK.out.hg
          have lbp := HK.out.hr.bplt
          obtain ⟨cc, hcc⟩ := HK.out.hr.blk
          have nbg := ownsRow_block_ne hop HK.out.hg (.inr (by decide))
          have nbp := ownsRow_block_ne hop hcc (.inr (by decide))
          have hu1 : (u : Int) < N := by omega
          have HROW := Lib.hid hrow
          have HOP := Lib.hid hop
          clear hrow hcc hop hrlen hRR
          have fp' : ∀ o, (wc.alloc o).frozen? ⟨w.heap.size + 1, u, none⟩ = false := fun o => (World.frozen?_of_block (w := wc) (Below.heap_alloc _ _ _ lbp)).trans fp
          have cp' : ∀ o, (wc.alloc o).cell? ⟨w.heap.size + 1, u, none⟩ = some (.slice ap row.length capp) := fun o => (World.cell?_of_block (w := wc) (Below.heap_alloc _ _ _ lbp)).trans cp
          have cgr' : ∀ o, (wc.alloc o).cell? ⟨w.heap.size + 1 + 1, 0, none⟩ = some (.slice (some ⟨w.heap.size + 1, 0, none⟩) N N) := fun o => (World.cell?_of_block (w := wc) (Below.heap_alloc _ _ _ lbg)).trans cgr
          go_upto_region 12 with fail
          go_region_law (first | (refine step_append_lies _ (by rfl) (.tmp 78) (.tmp 80) _ (by rfl) w.heap.size 3 ii (.int .i64 0) 1 8 Try.underlying29 hii hzi0 hzi1 hzi2 rfl (by omega) (.slice ap row.length capp) row.length (row.map encNat) (by rfl) ((HOP.out.alloc _).drew) ⟨wc.heap.size, 0, none⟩ 1 1 [.int .i64 (sv : Int)] (by rfl) (by rfl) (World.news_of_block (cs := #[.int .i64 (sv : Int)]) (t := 3) (fr := (0, 0)) (heap_alloc_new wc _)) (by simp [Value.oneCell']) (by omega) (by unfold maxLen; omega) (by omega) (by simp; omega) (wc.heap.size + 1) (by simp) ?_; intro gg cap3 w3 hown3 hgrow hat hlt4; have c23 := (hgrow.cell_far ⟨w.heap.size + 1 + 1, 0, none⟩ (by simp; omega) (Ne.symm nbg)).trans (cgr' _); have cp3 := (hgrow.cell_far ⟨w.heap.size + 1, u, none⟩ (by simp; omega) (Ne.symm nbp)).trans (cp' _); have fp3 := (hgrow.frozen_far ⟨w.heap.size + 1, u, none⟩ (by simp; omega) (Ne.symm nbp)).trans (fp' _)))
          all_goals go_wp2_with fail
          all_goals go_roundw
          all_goals first
            | (simp [intOf]; omega)
            | (refine ⟨k + 1, by omega, by omega, by go_num, ?_⟩
               have hput := HK.out.push HROW.out (x := sv) cp (grownBy_of_drew hgrow) hown3 hat (by omega)
               have hdr : ((p0 :: l).take (k + 1)).drop 1 = ((p0 :: l).take k).drop 1 ++ [p] := by
                 rw [List.take_add_one, hp, List.drop_append_of_le_length (by simp; omega)]; rfl
               rw [hdr, List.foldl_append, HRR.out, List.foldl_cons, List.foldl_nil, HSV.out]
               unfold addEdge
               rw [List.getD_eq_getElem?_getD, HROW.out]
               rw [show k - 1 + 1 = k + 1 - 1 by omega] at hput
               exact hput)
      · obtain rfl : k = L := by omega
        have htk : ((p0 :: l).take k).drop 1 = l := by rw [List.take_of_length_le (by omega)]; rfl
        rw [htk] at HK
        have hltf : ¬ ((k : Int) < k) := by omega
        obtain ⟨R1, hR1⟩ : ∃ R1, R1 = l.foldl (madeStep N) (List.replicate N []) := ⟨_, rfl⟩
        rw [← hR1] at HK
        go_wp2
        go_loopw [8] (fun uv wx => ∃ u : Nat, u + 1 ≤ N ∧ uv = .int .i64 (u : Int) ∧ Hid (MadeMem w wx w.heap.size N (60 + u) ((List.range u).foldl (made2 p0.2) R1))) (fun uv _ => N - (intOf uv).toNat)
        case atStart => exact ⟨0, by omega, rfl, HK.out.mono (by omega)⟩
        case round =>
          obtain ⟨u, hu, rfl, HU⟩ := hrel
          by_cases hlt : u + 1 < N
          · have hltI : (u : Int) + 1 < N := by omega
            have huI : (u : Int) < N := by omega
            have hRl := HU.out.hl
            generalize hRR : (List.range u).foldl (made2 p0.2) R1 = R at HU hRl
            have HRR := Lib.hid hRR
            obtain ⟨row, hrow⟩ : ∃ row, R[u]? = some row := ⟨_, List.getElem?_eq_getElem (by omega)⟩
            obtain ⟨ap, capp, cp, hop, fp⟩ := HU.out.hr.get hrow
            have cgr : wr.cell? ⟨w.heap.size + 1 + 1, 0, none⟩ = some (.slice (some ⟨w.heap.size + 1, 0, none⟩) N N) := cell_of_blk HU.out.hg (by simp)
            have hgd : R.getD u [] = row := by rw [List.getD_eq_getElem?_getD, hrow]; rfl
            have HROW := Lib.hid hrow
            have HGD := Lib.hid hgd
            have hrl : row.length ≤ 60 + u := HU.out.hrl row (List.mem_of_getElem? hrow)
            have c1w := (HU.out.hb.cell (p := ⟨b, o + 1, none⟩) hb).trans C1.out
            generalize hx0 : p0.2 = x0 at *
            clear hrow hgd hRR
            by_cases hrow0 : row.length = 0
            · have hr0 : row = [] := List.eq_nil_of_length_eq_zero hrow0
              have htl : ((row.length : Int) == 0) = true := by simpa using hrow0
              cases hbit : (bits BinOp.and IntKind.i64 x0 1 == 0) with
              | false =>
                have HB := Lib.hid hbit
                go_wp2
                go_roundw
                case rel =>
                  refine ⟨u + 1, by omega, by go_num, ?_⟩
                  rw [List.range_succ, List.foldl_append, HRR.out, List.foldl_cons, List.foldl_nil]
                  unfold made2
                  rw [if_neg (fun h => by have := h.2; rw [HB.out] at this; simp at this)]
                  exact HU.out.mono (by omega)
                case measure => simp [intOf]; omega
              | true =>
                have HB := Lib.hid hbit
                subst hr0
                simp only [List.length_nil, List.map_nil] at cp hop hrl
                have cp : wr.cell? ⟨w.heap.size + 1, u, none⟩ = some (.slice ap 0 capp) := cp
                have lbg : w.heap.size + 1 + 1 < wr.heap.size := lt_of_block HU.out.hg
                have lbp := HU.out.hr.bplt
                obtain ⟨cc, hcc⟩ := HU.out.hr.blk
                have nbg := ownsRow_block_ne hop HU.out.hg (.inr (by decide))
                have nbp := ownsRow_block_ne hop hcc (.inr (by decide))
                have HOP := Lib.hid hop
                clear hcc hop
                have fp' : ∀ o, (wr.alloc o).frozen? ⟨w.heap.size + 1, u, none⟩ = false := fun o => (World.frozen?_of_block (w := wr) (Below.heap_alloc _ _ _ lbp)).trans fp
                have cp' : ∀ o, (wr.alloc o).cell? ⟨w.heap.size + 1, u, none⟩ = some (.slice ap 0 capp) := fun o => (World.cell?_of_block (w := wr) (Below.heap_alloc _ _ _ lbp)).trans cp
                have cgr' : ∀ o, (wr.alloc o).cell? ⟨w.heap.size + 1 + 1, 0, none⟩ = some (.slice (some ⟨w.heap.size + 1, 0, none⟩) N N) := fun o => (World.cell?_of_block (w := wr) (Below.heap_alloc _ _ _ lbg)).trans cgr
                have hwr : IntKind.i64.wrap ((u : Int) + 1) = (u : Int) + 1 := by rw [IntWalk.i64_left, IntWalk.wrap64_in _ (by omega)]
                go_upto_region 17 with fail
                go_region_law (first | (refine step_append_lies _ (by rfl) (.tmp 111) (.tmp 114) _ (by rfl) w.heap.size 3 ii (.int .i64 0) 1 8 Try.underlying29 hii hzi0 hzi1 hzi2 rfl (by omega) (.slice ap 0 capp) 0 [] (by rfl) ((HOP.out.alloc _).drew) ⟨wr.heap.size, 0, none⟩ 1 1 [.int .i64 ((u : Int) + 1)] (by rfl) (by rfl) (World.news_of_block (cs := #[.int .i64 ((u : Int) + 1)]) (t := 3) (fr := (0, 0)) (heap_alloc_new wr _)) (by simp [Value.oneCell']) (by omega) (by unfold maxLen; omega) (by omega) (by simp; omega) (wr.heap.size + 1) (by simp) ?_; intro gg cap3 w3 hown3 hgrow hat hlt4; have c23 := (hgrow.cell_far ⟨w.heap.size + 1 + 1, 0, none⟩ (by simp; omega) (Ne.symm nbg)).trans (cgr' _); have cp3 := (hgrow.cell_far ⟨w.heap.size + 1, u, none⟩ (by simp; omega) (Ne.symm nbp)).trans (cp' _); have fp3 := (hgrow.frozen_far ⟨w.heap.size + 1, u, none⟩ (by simp; omega) (Ne.symm nbp)).trans (fp' _)))
                all_goals go_wp2_with fail
                all_goals go_roundw
                all_goals first
                  | (simp [intOf]; omega)
                  | (refine ⟨u + 1, by omega, by go_num, ?_⟩
                     have hput := HU.out.push HROW.out (x := u + 1) cp (grownBy_of_drew hgrow) (by simpa [encNat] using hown3) hat (by omega)
                     rw [List.range_succ, List.foldl_append, HRR.out, List.foldl_cons, List.foldl_nil]
                     unfold made2
                     rw [if_pos ⟨HGD.out, HB.out⟩]
                     unfold addEdge
                     rw [HGD.out]
                     exact hput)
            · have htl : ((row.length : Int) == 0) = false := by simpa using hrow0
              have hrn : row ≠ [] := fun e => hrow0 (by rw [e]; rfl)
              go_wp2
              go_roundw
              case rel =>
                refine ⟨u + 1, by omega, by go_num, ?_⟩
                rw [List.range_succ, List.foldl_append, HRR.out, List.foldl_cons, List.foldl_nil]
                unfold made2
                rw [if_neg (fun h => hrn (by rw [← HGD.out]; exact h.1))]
                exact HU.out.mono (by omega)
              case measure => simp [intOf]; omega
          · obtain rfl : N = u + 1 := by omega
            have cgr : wr.cell? ⟨w.heap.size + 1 + 1, 0, none⟩ = some (.slice (some ⟨w.heap.size + 1, 0, none⟩) (u + 1) (u + 1)) := cell_of_blk HU.out.hg (by simp)
            have cgs : wr.cell? ⟨w.heap.size, 0, none⟩ = some (.slice none 0 0) := cell_of_blk HU.out.hs (by simp)
            have fgs : wr.frozen? ⟨w.heap.size, 0, none⟩ = false := free_of_blk HU.out.hs
            have cgs2 : (wr.setCell ⟨w.heap.size, 0, none⟩ (.slice (some ⟨w.heap.size + 1, 0, none⟩) (u + 1) (u + 1))).cell? ⟨w.heap.size, 0, none⟩ = some (.slice (some ⟨w.heap.size + 1, 0, none⟩) (u + 1) (u + 1)) := cell_of_blk (heap_setCell_self HU.out.hs _) (by simp)
            go_wp2
            try simp only [Exit.inBlock, Exit.then]
            refine bodyPost_ret (v := .agg #[.slice (some ⟨w.heap.size + 1, 0, none⟩) (u + 1) (u + 1)]) ?_ rfl ?_
            · rw [results_cell1 rfl]
              go_simp
            · have hN2 : madeN (p0 :: l) = u + 1 := by
                unfold madeN
                rw [hL]
                have h1 := HMM.out
                have h2 := HN.out
                have h3 : ((min 20 (k + 1) : Nat) : Int) = (mm : Int) := by rw [h1]; split <;> omega
                rw [h3]
                simp only [List.headD_cons]
                omega
              have hfin : (List.range u).foldl (made2 p0.2) R1 = madeL (p0 :: l) := by
                rw [madeL_cons, hN2, hR1]; rfl
              have hM := HU.out
              rw [hfin] at hM
              have hr2 : OwnRows encNat 3 29 (wr.setCell ⟨w.heap.size, 0, none⟩ (.slice (some ⟨w.heap.size + 1, 0, none⟩) (u + 1) (u + 1))) w.heap.size (w.heap.size + 1) (madeL (p0 :: l)) := by
                obtain ⟨vs, v1, v2, v3, v4⟩ := hM.hr
                refine ⟨vs, set_blk v1 (by simp), v2, fun j row v hj hv => ?_, v4⟩
                have h5 := v3 j row v hj hv
                exact ownsRow_setCell_other h5 (ownsRow_block_ne (b := w.heap.size) h5 hM.hs (.inr (by decide))) _
              exact ⟨w.heap.size + 1, by rw [hM.hl], by omega, hr2, ⟨madeL_valid _, by rw [hM.hl]; omega, fun r hr => by have := hM.hrl r hr; omega⟩, hM.hb.setCell (Nat.le_refl _) _⟩
end Go.Proofs.Ytpfinkcnklkclaa
