/-
  The walk of the law FlowUnreached.
-/
import Derived.Test.YtpfinkcnklkclaaHdr
import Derived.Test.YtpfinkcnklkclaaLPath
set_option linter.unusedVariables false
set_option linter.unusedSimpArgs false
namespace Go.Proofs.Ytpfinkcnklkclaa
open Go.RowKit

def exRow (m : Nat) (bs : List Nat) (j : Nat) : List Nat := (bs.take j).map fun c => c % m
def exL (m : Nat) (more : List (List Nat)) (k : Nat) : List (List Nat) := (more.take k).map fun bs => exRow m bs 4
theorem exRow_succ {m : Nat} {bs : List Nat} {j c : Nat} (hc : bs[j]? = some c) : exRow m bs (j + 1) = exRow m bs j ++ [c % m] := by
  unfold exRow; rw [List.take_add_one, hc]; simp
theorem exRow_len (m : Nat) (bs : List Nat) (j : Nat) : (exRow m bs j).length = min j bs.length := by unfold exRow; simp
theorem exRow_full (m : Nat) (bs : List Nat) (j : Nat) (hj : j ≤ 4) (h : j = 4 ∨ bs.length ≤ j) : exRow m bs 4 = exRow m bs j := by
  unfold exRow
  rcases h with h | h
  · rw [h]
  · rw [List.take_of_length_le (by omega), List.take_of_length_le h]
theorem exL_succ {m : Nat} {more : List (List Nat)} {k : Nat} {bs : List Nat} (hk : more[k]? = some bs) : exL m more (k + 1) = exL m more k ++ [exRow m bs 4] := by
  unfold exL; rw [List.take_add_one, hk]; simp
theorem exL_len (m : Nat) (more : List (List Nat)) (k : Nat) (hk : k ≤ more.length) : (exL m more k).length = k := by unfold exL; simp; omega
theorem exL_ext {g more : List (List Nat)} {e : Nat} (hv : ValidG g) (he : e ≤ more.length) : Ext g (exL (g.length + e) more e) := by
  refine ⟨hv, fun l hl s hs => ?_⟩
  rw [exL_len _ _ _ he]
  unfold exL exRow at hl
  obtain ⟨bs, _, rfl⟩ := List.mem_map.1 hl
  obtain ⟨c, _, rfl⟩ := List.mem_map.1 hs
  exact Nat.mod_lt _ (by have := hv.1; omega)
theorem exL_row (m : Nat) (more : List (List Nat)) (e : Nat) : ∀ row ∈ exL m more e, row.length ≤ 4 := by
  intro row hr
  unfold exL at hr
  obtain ⟨bs, _, rfl⟩ := List.mem_map.1 hr
  rw [exRow_len]; omega
theorem SliceOf.takeN {α : Type} {enc : α → Value} {w : World} {B n m cap : Nat} {a : Option Addr} {xs : List α} (h : SliceOf enc w B (.slice a m cap) xs) (hn : n ≤ xs.length) : SliceOf enc w B (.slice a n cap) (xs.take n) := by
  obtain ⟨a', cap', e, hc, hx⟩ := h
  cases e
  refine ⟨a, cap, by rw [List.length_take, Nat.min_eq_left hn], by rw [List.length_take]; omega, fun k x hk => ?_⟩
  have hkl := (List.getElem?_eq_some_iff.1 hk).1
  rw [List.length_take] at hkl
  rw [List.getElem?_take, if_pos (by omega)] at hk
  exact hx k x hk

set_option maxRecDepth 100000 in
set_option maxHeartbeats 3200000 in
theorem law_unreached (w : World) (sv mv : Value) (l : List (Int × Int)) (h0 : PairsOf w w.heap.size sv l) (hi : ∀ p ∈ l, I64 p.1 ∧ I64 p.2) (hl : l.length ≤ 9223372036854775807)
    (more : List (List Nat)) (hm : RowsOf encU8 w w.heap.size mv more) (hml : more.length ≤ 9223372036854775807) (hmr : ∀ row ∈ more, (∀ c ∈ row, c ≤ 255) ∧ row.length ≤ 9223372036854775807) :
    Calls Try.prog 11 #[sv, mv] w fun e w' => e = .returned (.bool true) ∧ Below w.heap.size w w' := by
  obtain ⟨sa, sc, hsv⟩ : ∃ a c, sv = .slice a l.length c := let ⟨a, c, e, _⟩ := h0; ⟨a, c, e⟩
  obtain ⟨ma, mc, hmv, _⟩ := hm.form
  have hgv := madeL_valid (l.take 60)
  have hgn := madeL_len (l.take 60)
  obtain ⟨g, hge⟩ : ∃ g, g = madeL (l.take 60) := ⟨_, rfl⟩
  rw [← hge] at hgv hgn
  have hmd : ∀ W, Below w.heap.size w W → Calls Try.prog 30 #[sv] W (RetGraph W g) := fun W hb => by
    rw [hge]; exact law_made W sv l ((h0.below hb).mono hb.size) hi hl
  have HMD := Lib.hid hmd
  have HGV := Lib.hid hgv
  have HM := Lib.hid hm
  have HMR := Lib.hid hmr
  obtain ⟨e, he⟩ : ∃ e : Nat, (e : Int) = if (more.length : Int) < 5 then (more.length : Int) else 5 := ⟨min more.length 5, by split <;> omega⟩
  have hemin : ∀ (ts : Array TypeId) (t : TypeId) (W : World), (Builtin.min_ ts t #[.int .i64 (more.length : Int), .int .i64 5]).run Try.prog W = .ok (.int .i64 (e : Int)) W := fun ts t W => by
    have hh : (e : Int) = if (5 : Int) < (more.length : Int) then 5 else (more.length : Int) := by rw [he]; split <;> split <;> omega
    rw [hh]; exact run_min_int2 ..
  have he5 : e ≤ 5 := by split at he <;> omega
  have hem : e ≤ more.length := by split at he <;> omega
  clear hmd h0 hi hge hgv hm hmr he
  subst hsv
  subst hmv
  obtain ⟨ii, hii, hzi0, hzi1, hzi2⟩ := info_parts Try.info_int
  obtain ⟨ij, hij, hzj0, hzj1, hzj2⟩ := info_parts Try.info_ints
  go_enter Try.func11, Try.ntmps11
  go_upto_region 3 with (first
    | (go_at_call 16; go_must (refine (sanity_any _).mono ?_; rintro e w1 ⟨rfl, hb1⟩))
    | (go_at_call 30; go_must (refine (HMD.out _ hb1).mono ?_; rintro e w2 ⟨bp, rfl, hbp, hor, hgw, hb2⟩; have hv2 := Var.mk' (graph_own hor hgw) (Below.refl _ _); have cv2 := hv2.cell; have hb02 : Below w.heap.size w _ := (hb1.trans (hb2.mono hb1.size)).alloc (by have := hb1.size; have := hb2.size; omega) (.cells #[.slice (some ⟨bp, 0, none⟩) g.length g.length] 24))))
  have HRL := Lib.hid hgw.2.2
  generalize hV : w2.alloc (.cells #[.slice (some ⟨bp, 0, none⟩) g.length g.length] 24) = V at *
  generalize hbx : w2.heap.size = bx at *
  obtain ⟨vs, hvs, _, hbpl, hnews, hone, hrows⟩ := hv2.2.header
  have hnews' : ∀ (o : Obj) (j : Nat) (u : Value), vs[j]? = some u → (V.alloc o).cell? ((⟨bp, 0, none⟩ : Addr).add j) = some u := fun o j u hu => by
    have hadd : (⟨bp, 0, none⟩ : Addr).add j = ⟨bp, j, none⟩ := by unfold Addr.add; split <;> simp_all
    have := hnews j u hu
    rw [hadd] at this ⊢
    exact (((Below.refl _ V).alloc (Nat.le_refl _) o).cell (p := ⟨bp, j, none⟩) hbpl).trans this
  have HNEWS := Lib.hid (And.intro hvs (And.intro hnews' (And.intro hone hrows)))
  have HV2 := Lib.hid hv2
  have hbxl : bx < V.heap.size := lt_of_block hv2.1
  have hgp : 0 < g.length := HGV.out.1
  have cva : ∀ o, (V.alloc o).cell? ⟨bx, 0, none⟩ = some (.slice (some ⟨bp, 0, none⟩) g.length g.length) := fun o => (World.cell?_alloc_lt _ _ _ hbxl).trans cv2
  clear hV hbx hor hgw hb1 hb2 hv2 hbp hnews hone hrows hnews' hvs
  go_upto_region 4 with (at_builtin; go_must (refine wpList_append_lies _ rfl (.tmp 18) (.tmp 20) 22 rfl V.heap.size 29 ij (.slice none 0 0) 1 24 Try.underlying22 hij hzj0 hzj1 hzj2 rfl (by decide) (.slice (some ⟨V.heap.size, 0, none⟩) 0 0) 0 [] rfl (own_empty (Nat.le_refl _)) ⟨bp, 0, none⟩ g.length g.length vs rfl (by rw [HNEWS.out.1]; omega) (HNEWS.out.2.1 _) HNEWS.out.2.2.1 hgp (by unfold maxLen; omega) (by omega) (by simp) (V.heap.size + 1) (by simp) ?_; intro gq capq w6 hown6 hgrow6 hat6 hlt6; have HO6 := Lib.hid (And.intro hown6 hgrow6); clear hown6 hgrow6 hat6))
  have hhd : HdrMem V (w6.alloc (.cells #[.slice (some ⟨gq, 0, none⟩) g.length capq] 24)) w6.heap.size (.slice (some ⟨gq, 0, none⟩) g.length capq) (g ++ exL (g.length + e) more 0) := by
    have hb6 : Below V.heap.size V w6 := ((Below.refl _ V).alloc (Nat.le_refl _) _).grown HO6.out.2 (by simp) (fun k hk => by simp [Value.ownBlock] at hk; omega)
    have hex0 : g ++ exL (g.length + e) more 0 = g := by simp [exL]
    rw [hex0]
    refine ⟨⟨vs, HNEWS.out.1, by simpa using HO6.out.1.alloc _, fun k v row hk hr => .inl (HNEWS.out.2.2.2 k v row hk hr)⟩, new_at rfl, hb6.alloc hb6.size _, hb6.size⟩
  have HHD := Lib.hid hhd
  generalize hby : w6.heap.size = by2 at *
  have cgh : ∀ o : Obj, True := fun _ => trivial
  clear hhd hby HO6 cgh cva hlt6
  generalize w6.alloc (.cells #[.slice (some ⟨gq, 0, none⟩) g.length capq] 24) = W0 at *
  go_wp2
  have hm25 : (g.length : Int) + (e : Int) ≤ 25 := by omega
  go_loopw [9] (fun kv wr => ∃ (k : Nat) (hv : Value), k ≤ e ∧ kv = .int .i64 (k : Int) ∧ Hid (HdrMem V wr by2 hv (g ++ exL (g.length + e) more k))) (fun kv _ => e - (intOf kv).toNat)
  case atStart => exact ⟨0, _, Nat.zero_le _, rfl, HHD⟩
  case round =>
    obtain ⟨k, hv, hk, rfl, HK⟩ := hrel
    have cgr := (HK.out.hb.cell (p := ⟨bx, 0, none⟩) hbxl).trans cv2
    by_cases hltk : k < e
    · have hltkI : (k : Int) < e := by omega
      have hltkM : (k : Int) < more.length := by omega
      have HLTK := Lib.hid hltk
      obtain ⟨bs, hbs⟩ : ∃ bs, more[k]? = some bs := ⟨_, List.getElem?_eq_getElem (by omega)⟩
      have hbr := HMR.out bs (List.mem_of_getElem? hbs)
      obtain ⟨bm, om, a2, cap2, rfl, hbm, hcm, hcap2, hx⟩ := HM.out.row hbs
      have hbw : Below w.heap.size w wr := hb02.trans (HK.out.hb.mono hb02.size)
      have hcr := (hbw.cell (p := ⟨bm, om + k, none⟩) hbm).trans hcm
      obtain ⟨mn, hmn⟩ : ∃ mn : Nat, (mn : Int) = if (4 : Int) < (bs.length : Int) then 4 else (bs.length : Int) := ⟨min bs.length 4, by split <;> omega⟩
      have hmin2 : ∀ (ts : Array TypeId) (t : TypeId) (W : World), (Builtin.min_ ts t #[.int .i64 (bs.length : Int), .int .i64 4]).run Try.prog W = .ok (.int .i64 (mn : Int)) W := fun ts t W => by rw [hmn]; exact run_min_int2 ..
      have hmn4 : mn ≤ 4 ∧ mn ≤ bs.length ∧ (mn = 4 ∨ bs.length ≤ mn) := by split at hmn <;> omega
      have hmnc : (mn : Int) ≤ cap2 := by omega
      have HBS := Lib.hid (And.intro hbs (And.intro hx hbr))
      have hbl : bs.length ≤ 9223372036854775807 := hbr.2
      have HBW := Lib.hid hbw
      have HMN := Lib.hid hmn4
      clear hbs hbr hcm hx hmn hltk hbw hmn4
      go_wp2
      go_quiet (fail)
      have HK2 := Lib.hid (HK.out.below (below_drewN0 wr.heap.size wr nq))
      have cgW : (wr.drewN nq).cell? ⟨bx, 0, none⟩ = some (.slice (some ⟨bp, 0, none⟩) g.length g.length) := cgr
      have HBW2 : Hid (Below w.heap.size w (wr.drewN nq)) := below_drewN HBW.out
      clear HK cgr HBW hcr
      generalize wr.drewN nq = W at *
      have hbxW : bx < W.heap.size := World.block_lt_of_cell? W _ cgW
      go_wp2
      go_loopw [10, 43] (fun lv jv wx => ∃ j : Nat, j ≤ mn ∧ jv = .int .i64 (j : Int) ∧ Hid (wx.ownsRow W.heap.size 3 1 lv j ((exRow (g.length + e) bs j).map encNat) ∧ Below W.heap.size W wx)) (fun _ jv _ => mn - (intOf jv).toNat)
      case atStart => exact ⟨0, Nat.zero_le _, rfl, by simpa [exRow] using World.ownsRow_nil _ _ _ _, Below.refl _ _⟩
      case round =>
        obtain ⟨j, hj, rfl, HL⟩ := hrel
        have cgx := (HL.out.2.cell (p := ⟨bx, 0, none⟩) hbxW).trans cgW
        obtain ⟨la, lc, rfl⟩ := ownsRow_form HL.out.1
        by_cases hltj : j < mn
        · have hltjI : (j : Int) < mn := by omega
          have HLTJ := Lib.hid hltj
          obtain ⟨c, hc⟩ : ∃ c, bs[j]? = some c := ⟨_, List.getElem?_eq_getElem (by have := HMN.out; omega)⟩
          obtain ⟨b2, o2, rfl, hb2, hcw⟩ := HBS.out.2.1 j c hc
          have hc255 := HBS.out.2.2.1 c (List.mem_of_getElem? hc)
          have hcw6 := ((HBW2.out.trans (HL.out.2.mono HBW2.out.size)).cell (p := ⟨b2, o2 + j, none⟩) hb2).trans hcw
          simp only [encU8] at hcw6
          obtain ⟨r, hr⟩ : ∃ r, c % (g.length + e) = r := ⟨_, rfl⟩
          have hrm : (c : Int).tmod ((g.length : Int) + (e : Int)) = (r : Int) := by rw [show (g.length : Int) + (e : Int) = ((g.length + e : Nat) : Int) by omega, Int.tmod_eq_emod_of_nonneg (by omega), ← hr]; rfl
          have hz1 : (g.length : Int) + (e : Int) ≠ 0 := by omega
          have hz2 : ((g.length : Int) + (e : Int) == 0) = false := by rw [beq_eq_false_iff_ne]; omega
          have hsu := exRow_succ (m := g.length + e) hc
          rw [hr] at hsu
          have HSU := Lib.hid hsu
          have hszL := HL.out.2.size
          have hjc := ownsRow_le HL.out.1
          have hj4 : j ≤ 4 := by have := HMN.out; omega
          clear hc hcw hr hsu hltj hb2
          go_wp2_with (at_builtin; go_must (refine wpList_append_lies _ rfl (.tmp 47) (.tmp 56) 29 rfl W.heap.size 3 ii (.int .i64 0) 1 8 Try.underlying29 hii hzi0 hzi1 hzi2 rfl (by decide) _ j ((exRow (g.length + e) bs j).map encNat) rfl (HL.out.1.alloc _) ⟨wr.heap.size, 0, none⟩ 1 1 [.int .i64 (r : Int)] rfl rfl (World.news_of_block (cs := #[.int .i64 (r : Int)]) (new_at (by simp))) (by simp [Value.oneCell']) (by decide) (by unfold maxLen; omega) (by omega) (by simp; omega) (wr.heap.size + 1) (by simp) ?_; intro gq2 capq2 w7 hown7 hgrow7 hat7 hlt7; have HO7 := Lib.hid (And.intro hown7 hgrow7); clear hown7 hgrow7))
          go_roundw
          case rel =>
            refine ⟨j + 1, by have := HLTJ.out; omega, by go_num, ?_, (HL.out.2.alloc hszL _).grown HO7.out.2 (by simp; omega) (fun q e => (HL.out.1.lt q e).1)⟩
            rw [HSU.out]; simpa [encNat] using HO7.out.1
          case measure => have := HLTJ.out; simp [intOf]; omega
        · obtain rfl : j = mn := by omega
          have hltjI : ¬ (j : Int) < j := by omega
          have hHB := HK2.out.below HL.out.2
          obtain ⟨vs2, hv1, hv2, hv3⟩ := hHB.ex
          have hRl : (g ++ exL (g.length + e) more k).length = g.length + k := by rw [List.length_append, exL_len _ _ _ (by omega)]
          have hfull := exRow_full (g.length + e) bs j (by have := HMN.out; omega) HMN.out.2.2
          have hrl2 : (exRow (g.length + e) bs 4).length = j := by rw [hfull, exRow_len]; have := HMN.out; omega
          rw [hRl] at hv2
          obtain ⟨ha, hc, rfl⟩ := ownsRow_form hv2
          have co := cell_of_blk (i := 0) (v := .slice ha (g.length + k) hc) hHB.hg (by simp)
          have fo := free_of_blk (i := 0) hHB.hg
          have hlo2 := lt_of_block hHB.hg
          have hWs : V.heap.size ≤ W.heap.size := HK2.out.hb.size
          have hlB : RowAt V wr (.slice la j lc) (exRow (g.length + e) bs 4) := .inr (by rw [hrl2, hfull]; exact ownsRow_mono HL.out.1 hWs)
          have HH := Lib.hid (And.intro hHB (And.intro hv1 (And.intro hv2 (And.intro hv3 (And.intro hlB hRl)))))
          have nbo := ownsRow_block_ne hv2 hHB.hg (.inr (by decide))
          have hvl : vs2.length ≤ 25 := by omega
          have hszx := hHB.hb.size
          have co' : ∀ o, (wr.alloc o).cell? ⟨by2, 0, none⟩ = some (.slice ha (g.length + k) hc) := fun o => (World.cell?_of_block (w := wr) (Below.heap_alloc _ _ _ hlo2)).trans co
          have fo' : ∀ o, (wr.alloc o).frozen? ⟨by2, 0, none⟩ = false := fun o => (World.frozen?_of_block (w := wr) (Below.heap_alloc _ _ _ hlo2)).trans fo
          clear hHB hv1 hv2 hv3 hRl hlB hltj hfull hrl2
          go_wp2_with (at_builtin; go_must (refine wpList_append_lies _ rfl (.tmp 60) (.tmp 62) 22 rfl V.heap.size 29 ij (.slice none 0 0) 1 24 Try.underlying22 hij hzj0 hzj1 hzj2 rfl (by decide) _ (g.length + k) vs2 rfl (HH.out.2.2.1.alloc _) ⟨wr.heap.size, 0, none⟩ 1 1 [.slice la j lc] rfl rfl (World.news_of_block (cs := #[.slice la j lc]) (new_at (by simp))) (by simp [Value.oneCell']) (by decide) (by unfold maxLen; omega) (by omega) (by simp; omega) (wr.heap.size + 1) (by simp) ?_; intro gq2 capq2 w7 hown7 hgrow7 hat7 hlt7; have co6 := (hgrow7.cell_far ⟨by2, 0, none⟩ (by simp; omega) (Ne.symm nbo)).trans (co' _); have fo6 := (hgrow7.frozen_far ⟨by2, 0, none⟩ (by simp; omega) (Ne.symm nbo)).trans (fo' _); have HO7 := Lib.hid (And.intro hown7 hgrow7); clear hown7 hgrow7))
          go_roundw
          case rel =>
            refine ⟨k + 1, .slice (some ⟨gq2, 0, none⟩) (g.length + k + 1) capq2, by have := HLTK.out; omega, by go_num, ?_⟩
            rw [exL_succ HBS.out.1, ← List.append_assoc]
            exact HdrMem.push HH.out.2.1 (by rw [HH.out.2.2.2.2.2]; exact HH.out.2.2.1) HH.out.2.2.2.1 HH.out.1.hg HH.out.1.hb HH.out.1.gh HH.out.2.2.2.2.1 _ HO7.out.2 (by rw [HH.out.2.2.2.2.2]; exact HO7.out.1)
          case measure => have := HLTK.out; simp [intOf]; omega
    · obtain rfl : k = e := by omega
      have hltkI : ¬ (k : Int) < k := by omega
      have hE := exL_ext (more := more) HGV.out hem
      have hexl := exL_len (g.length + k) more k hem
      have hrw : ∀ row ∈ g ++ exL (g.length + k) more k, row.length ≤ 2000000 := fun row hr => by
        rcases List.mem_append.1 hr with hr | hr
        · exact HRL.out row hr
        · have := exL_row (g.length + k) more k row hr; omega
      have hRl : (g ++ exL (g.length + k) more k).length = g.length + k := by rw [List.length_append, hexl]
      have hvar := HK.out.graph hE.valid (by rw [hRl]; omega) hrw
      obtain ⟨vs2, hv1, hv2, hv3⟩ := HK.out.ex
      obtain ⟨ha, hc, rfl⟩ := ownsRow_form hv2
      have hid := hE.idom
      rw [hexl] at hid
      have hfar : ∀ x, g.length ≤ x → x < g.length + k → (idomL (g ++ exL (g.length + k) more k))[x]? = some (-1) := fun x h1 h2 => by
        have hgl : (idomL g).length = g.length := by simp [idomL]
        rw [hid, List.getElem?_append_right (by omega), List.getElem?_replicate, if_pos (by omega)]
      have hnear : (idomL (g ++ exL (g.length + k) more k)).take g.length = idomL g := by
        have hgl : (idomL g).length = g.length := by simp [idomL]
        rw [hid, List.take_append_of_le_length (by omega), List.take_of_length_le (by omega)]
      have hdl : (idomL (g ++ exL (g.length + k) more k)).length = g.length + k := by rw [hid]; simp [idomL]
      have horder := hE.order
      have hloops := hE.loops
      have hred := hE.red
      have hvg := HV2.out.below HK.out.hb
      have hb0 := hb02.trans (HK.out.hb.mono hb02.size)
      generalize hhe : g ++ exL (g.length + k) more k = hh at *
      obtain ⟨DL, hDL⟩ : ∃ D, idomL hh = D := ⟨_, rfl⟩
      rw [hDL] at hfar hnear hdl
      obtain ⟨q, hq⟩ : ∃ q, redF g = q := ⟨_, rfl⟩
      obtain ⟨xo, hxo⟩ : ∃ x, orderL g = x := ⟨_, rfl⟩
      obtain ⟨xl, hxl⟩ : ∃ x, loopsL g = x := ⟨_, rfl⟩
      obtain ⟨xg, hxg⟩ : ∃ x, idomL g = x := ⟨_, rfl⟩
      have hxo20 : xo.length ≤ 2000000 := by
        obtain ⟨ns, hO⟩ := ordF HGV.out
        have := (hO.is.nodes HGV.out).1
        rw [← hxo, hO.eq]; omega
      have HQ := Lib.hid (show orderL g = xo ∧ orderL hh = xo ∧ idomL g = xg ∧ idomL hh = DL ∧ loopsL g = xl ∧ loopsL hh = xl ∧ redF g = q ∧ redF hh = q from ⟨hxo, horder.trans hxo, hxg, hDL, hxl, hloops.trans hxl, hq, hred.trans hq⟩)
      have HLN := Lib.hid (show xo.length ≤ 2000000 ∧ xg.length ≤ 2000000 ∧ xl.length ≤ 2000000 ∧ ∀ c ∈ xl, c.2.length ≤ 2000000 from ⟨hxo20, by rw [← hxg]; simp [idomL]; omega, by rw [← hxl]; have := loopsL_len g; omega, fun c hcc => by rw [← hxl] at hcc; have := loopsL_body g c hcc; omega⟩)
      rw [hxg] at hnear
      have HFAR := Lib.hid (And.intro hfar hnear)
      have hl1 : hh.length ≤ g.length + k := by omega
      have hl2 : g.length + k ≤ hh.length := by omega
      have hd1 : DL.length ≤ g.length + k := by omega
      have hd2 : g.length + k ≤ DL.length := by omega
      have hne : ((DL.length : Int) != (hh.length : Int)) = false := by rw [bne_eq_false_iff_eq]; omega
      have HB0 := Lib.hid hb0
      have HVG := Lib.hid hvg
      have HVH := Lib.hid hvar
      have cg := hvg.cell
      have ch := hvar.cell
      clear hE hexl hrw hRl hvar hv1 hv2 hv3 hid hfar hnear hdl horder hloops hred hvg hb0 hDL hq hxo hxl hxg HK cgr cv2 hhe hltk hxo20
      generalize wr = W5 at *
      go_wp2_with (go_at_call 23; go_must (refine (dom_of (xs := DL) HVH.out.2 HQ.out.2.2.2.1).mono ?_; rintro e1 wD ⟨uD, rfl, hoD, hbD⟩; obtain ⟨da, dc, rfl⟩ := ownsRow_form hoD; have hdc := ownsRow_le hoD; have HOD := Lib.hid (And.intro (sliceOf_own (enc := encInt) (xs := DL) hoD (Nat.le_refl _)) hbD); have cgD := ((HVG.out.below hbD).cell); have chD := ((HVH.out.below hbD).cell); clear hoD hbD))
      go_loopw [14] (fun xv wx => ∃ x : Nat, g.length ≤ x ∧ x ≤ DL.length ∧ xv = .int .i64 (x : Int) ∧ wx = wD) (fun xv _ => DL.length - (intOf xv).toNat)
      case atStart => exact ⟨g.length, Nat.le_refl _, by omega, rfl, rfl⟩
      case round =>
        obtain ⟨x, hx1, hx2, rfl, rfl⟩ := hrel
        by_cases hltx : x < DL.length
        · have hltxI : (x : Int) < DL.length := by omega
          have HLTX := Lib.hid hltx
          obtain ⟨a1, k1, e1, _, hda⟩ := HOD.out.1
          cases e1
          obtain ⟨b1, o1, rfl, _, ca⟩ := hda x _ (HFAR.out.1 x hx1 (by omega))
          simp only [encInt] at ca
          clear hda hltx
          go_wp2
          go_roundw
          case rel => exact ⟨x + 1, by omega, by have := HLTX.out; omega, by go_num, trivial⟩
          case measure => have := HLTX.out; simp [intOf]; omega
        · obtain rfl : x = DL.length := by omega
          have hltxI : ¬ (DL.length : Int) < DL.length := by omega
          have hvg := HVG.out.below HOD.out.2
          have hvh := HVH.out.below HOD.out.2
          have hb0 := HB0.out.trans (HOD.out.2.mono HB0.out.size)
          have hd0 : SliceOf encInt wr wr.heap.size (.slice da g.length dc) xg := by
            have := HOD.out.1.takeN (n := g.length) (by omega)
            rw [HFAR.out.2] at this; exact this
          have hgdc : (g.length : Int) ≤ dc := by have := hdc.1; omega
          have hb00 := below_drew1 hb0
          have hvg0 := var_drew hvg
          have hvh0 := var_drew hvh
          have cg9 := hvg.cell
          have ch9 := hvh.cell
          go_upto_region 23 with fail
          have m0 : True := trivial
          have m1 : True := trivial
          have m2 : True := trivial
          have m3 : True := trivial
          have m4 : True := trivial
          have m5 : True := trivial
          have m6 : True := trivial
          have m7 : True := trivial
          have m8 : True := trivial
          have m9 : True := trivial
          go_region_held3 (fun w' => w'.cell? ⟨bx, 0, none⟩ = some (.slice (some ⟨bp, 0, none⟩) g.length g.length) ∧ w'.cell? ⟨by2, 0, none⟩ = some (.slice ha hh.length hc) ∧ Var w' (bx) (.slice (some ⟨bp, 0, none⟩) g.length g.length) (g) ∧ Var w' (by2) (.slice ha hh.length hc) (hh) ∧ Below w.heap.size w w')
            (first
              | (go_split_ands; refine ⟨?_, ?_, ?_, ?_, ?_⟩ <;> assumption)
              | (go_split_ands; refine ⟨?_, ?_, var_drew ?_, var_drew ?_, below_drew1 ?_⟩ <;> assumption))
            (first
              | (go_at_call 21; have gate := m0; clear m0; (with_reducible refine (ord_of (xs := xo) (Var.gr (b := bx) (sv := .slice (some ⟨bp, 0, none⟩) g.length g.length) (g := g) (by assumption)) HQ.out.1).mono ?_); rintro e wA ⟨uA, rfl, hoA, hbA⟩; have v0A : Var wA (bx) (.slice (some ⟨bp, 0, none⟩) g.length g.length) (g) := Var.below (by assumption) hbA; have v1A : Var wA (by2) (.slice ha hh.length hc) (hh) := Var.below (by assumption) hbA; have c0A := v0A.cell; have c1A := v1A.cell; have hb0A : Below w.heap.size w wA := Below.trans (by assumption) (hbA.mono (Below.size (by assumption))); have hD0_A : SliceOf encInt wA wA.heap.size (.slice da g.length dc) (xg) := (by first | exact slice_next hd0 hbA | exact slice_next (slice_drew hd0) hbA | exact slice_next (slice_drew (slice_drew hd0)) hbA | exact slice_next (slice_drew (slice_drew (slice_drew hd0))) hbA); have hA : SliceOf encNat wA wA.heap.size uA (xo) := sliceOf_own hoA (Nat.le_refl _); clear hoA)
              | (go_at_call 21; have gate := m1; clear m1; (with_reducible refine (ord_of (xs := xo) (Var.gr (b := by2) (sv := .slice ha hh.length hc) (g := hh) (by assumption)) HQ.out.2.1).mono ?_); rintro e wB ⟨uB, rfl, hoB, hbB⟩; have v0B : Var wB (bx) (.slice (some ⟨bp, 0, none⟩) g.length g.length) (g) := Var.below (by assumption) hbB; have v1B : Var wB (by2) (.slice ha hh.length hc) (hh) := Var.below (by assumption) hbB; have c0B := v0B.cell; have c1B := v1B.cell; have hb0B : Below w.heap.size w wB := Below.trans (by assumption) (hbB.mono (Below.size (by assumption))); have hD0_B : SliceOf encInt wB wB.heap.size (.slice da g.length dc) (xg) := (by first | exact slice_next hD0_A hbB | exact slice_next (slice_drew hD0_A) hbB | exact slice_next (slice_drew (slice_drew hD0_A)) hbB | exact slice_next (slice_drew (slice_drew (slice_drew hD0_A))) hbB); have hA_B : SliceOf encNat wB wB.heap.size uA (xo) := (by first | exact slice_next hA hbB | exact slice_next (slice_drew hA) hbB | exact slice_next (slice_drew (slice_drew hA)) hbB | exact slice_next (slice_drew (slice_drew (slice_drew hA))) hbB); have hB : SliceOf encNat wB wB.heap.size uB (xo) := sliceOf_own hoB (Nat.le_refl _); clear hoB)
              | (go_at_call 20; have gate := m2; clear m2; (refine (intsN_true (xs := xo) (ys := xo) (by repeat' (first | exact hA_B | refine slice_drew ?_)) (by repeat' (first | exact hB | refine slice_drew ?_)) HLN.out.1 rfl).mono ?_); rintro e wC ⟨rfl, hbC⟩; have v0C : Var wC (bx) (.slice (some ⟨bp, 0, none⟩) g.length g.length) (g) := Var.below (by assumption) hbC; have v1C : Var wC (by2) (.slice ha hh.length hc) (hh) := Var.below (by assumption) hbC; have c0C := v0C.cell; have c1C := v1C.cell; have hb0C : Below w.heap.size w wC := Below.trans (by assumption) (hbC.mono (Below.size (by assumption))); have hD0_C : SliceOf encInt wC wC.heap.size (.slice da g.length dc) (xg) := (by first | exact slice_next hD0_B hbC | exact slice_next (slice_drew hD0_B) hbC | exact slice_next (slice_drew (slice_drew hD0_B)) hbC | exact slice_next (slice_drew (slice_drew (slice_drew hD0_B))) hbC))
              | (go_at_call 23; have gate := m3; clear m3; (with_reducible refine (dom_of (xs := xg) (Var.gr (b := bx) (sv := .slice (some ⟨bp, 0, none⟩) g.length g.length) (g := g) (by assumption)) HQ.out.2.2.1).mono ?_); rintro e wD ⟨uD, rfl, hoD, hbD⟩; have v0D : Var wD (bx) (.slice (some ⟨bp, 0, none⟩) g.length g.length) (g) := Var.below (by assumption) hbD; have v1D : Var wD (by2) (.slice ha hh.length hc) (hh) := Var.below (by assumption) hbD; have c0D := v0D.cell; have c1D := v1D.cell; have hb0D : Below w.heap.size w wD := Below.trans (by assumption) (hbD.mono (Below.size (by assumption))); have hD0_D : SliceOf encInt wD wD.heap.size (.slice da g.length dc) (xg) := (by first | exact slice_next hD0_C hbD | exact slice_next (slice_drew hD0_C) hbD | exact slice_next (slice_drew (slice_drew hD0_C)) hbD | exact slice_next (slice_drew (slice_drew (slice_drew hD0_C))) hbD); have hD : SliceOf encInt wD wD.heap.size uD (xg) := sliceOf_own hoD (Nat.le_refl _); clear hoD)
              | (go_at_call 20; have gate := m4; clear m4; (refine (ints_true (xs := xg) (ys := xg) (by repeat' (first | exact hD | refine slice_drew ?_)) (by repeat' (first | exact hD0_D | refine slice_drew ?_)) HLN.out.2.1 rfl).mono ?_); rintro e wE ⟨rfl, hbE⟩; have v0E : Var wE (bx) (.slice (some ⟨bp, 0, none⟩) g.length g.length) (g) := Var.below (by assumption) hbE; have v1E : Var wE (by2) (.slice ha hh.length hc) (hh) := Var.below (by assumption) hbE; have c0E := v0E.cell; have c1E := v1E.cell; have hb0E : Below w.heap.size w wE := Below.trans (by assumption) (hbE.mono (Below.size (by assumption))))
              | (go_at_call 26; have gate := m5; clear m5; (with_reducible refine (loops_of (cs := xl) (Var.gr (b := bx) (sv := .slice (some ⟨bp, 0, none⟩) g.length g.length) (g := g) (by assumption)) HQ.out.2.2.2.2.1).mono ?_); rintro e wF ⟨uF, rfl, hoF, hbF⟩; have v0F : Var wF (bx) (.slice (some ⟨bp, 0, none⟩) g.length g.length) (g) := Var.below (by assumption) hbF; have v1F : Var wF (by2) (.slice ha hh.length hc) (hh) := Var.below (by assumption) hbF; have c0F := v0F.cell; have c1F := v1F.cell; have hb0F : Below w.heap.size w wF := Below.trans (by assumption) (hbF.mono (Below.size (by assumption))); have hF : CycOf wF wF.heap.size uF (xl) := hoF.cyc (Nat.le_refl _); clear hoF)
              | (go_at_call 26; have gate := m6; clear m6; (with_reducible refine (loops_of (cs := xl) (Var.gr (b := by2) (sv := .slice ha hh.length hc) (g := hh) (by assumption)) HQ.out.2.2.2.2.2.1).mono ?_); rintro e wG ⟨uG, rfl, hoG, hbG⟩; have v0G : Var wG (bx) (.slice (some ⟨bp, 0, none⟩) g.length g.length) (g) := Var.below (by assumption) hbG; have v1G : Var wG (by2) (.slice ha hh.length hc) (hh) := Var.below (by assumption) hbG; have c0G := v0G.cell; have c1G := v1G.cell; have hb0G : Below w.heap.size w wG := Below.trans (by assumption) (hbG.mono (Below.size (by assumption))); have hF_G : CycOf wG wG.heap.size uF (xl) := (by first | exact cyc_next hF hbG | exact cyc_next (cyc_drew2 hF) hbG | exact cyc_next (cyc_drew2 (cyc_drew2 hF)) hbG | exact cyc_next (cyc_drew2 (cyc_drew2 (cyc_drew2 hF))) hbG); have hG : CycOf wG wG.heap.size uG (xl) := hoG.cyc (Nat.le_refl _); clear hoG)
              | (go_at_call 25; have gate := m7; clear m7; (refine (cycles_true (xs := xl) (ys := xl) (by repeat' (first | exact hF_G | refine cyc_drew2 ?_)) (by repeat' (first | exact hG | refine cyc_drew2 ?_)) HLN.out.2.2.1 HLN.out.2.2.2 rfl).mono ?_); rintro e wH ⟨rfl, hbH⟩; have v0H : Var wH (bx) (.slice (some ⟨bp, 0, none⟩) g.length g.length) (g) := Var.below (by assumption) hbH; have v1H : Var wH (by2) (.slice ha hh.length hc) (hh) := Var.below (by assumption) hbH; have c0H := v0H.cell; have c1H := v1H.cell; have hb0H : Below w.heap.size w wH := Below.trans (by assumption) (hbH.mono (Below.size (by assumption))))
              | (go_at_call 28; have gate := m8; clear m8; (with_reducible refine (red_of (q := q) (Var.gr (b := bx) (sv := .slice (some ⟨bp, 0, none⟩) g.length g.length) (g := g) (by assumption)) HQ.out.2.2.2.2.2.2.1).mono ?_); rintro e wI ⟨rfl, hbI⟩; have v0I : Var wI (bx) (.slice (some ⟨bp, 0, none⟩) g.length g.length) (g) := Var.below (by assumption) hbI; have v1I : Var wI (by2) (.slice ha hh.length hc) (hh) := Var.below (by assumption) hbI; have c0I := v0I.cell; have c1I := v1I.cell; have hb0I : Below w.heap.size w wI := Below.trans (by assumption) (hbI.mono (Below.size (by assumption))))
              | (go_at_call 28; have gate := m9; clear m9; (with_reducible refine (red_of (q := q) (Var.gr (b := by2) (sv := .slice ha hh.length hc) (g := hh) (by assumption)) HQ.out.2.2.2.2.2.2.2).mono ?_); rintro e wJ ⟨rfl, hbJ⟩; have v0J : Var wJ (bx) (.slice (some ⟨bp, 0, none⟩) g.length g.length) (g) := Var.below (by assumption) hbJ; have v1J : Var wJ (by2) (.slice ha hh.length hc) (hh) := Var.below (by assumption) hbJ; have c0J := v0J.cell; have c1J := v1J.cell; have hb0J : Below w.heap.size w wJ := Below.trans (by assumption) (hbJ.mono (Below.size (by assumption)))))
          all_goals go_wp2_with fail
          all_goals go_ret
          all_goals exact ⟨rfl, hb0J⟩
end Go.Proofs.Ytpfinkcnklkclaa
