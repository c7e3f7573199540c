/-
  The walk of renamed.
-/
import Derived.Test.YtpfinkcnklkclaaShuf
set_option linter.unusedVariables false
set_option linter.unusedSimpArgs false
namespace Go.Proofs.Ytpfinkcnklkclaa
open Go.RowKit

def toF (tl : List Nat) (x : Nat) : Nat := tl.getD x 0
def renRow (g : List (List Nat)) (tl : List Nat) (y k : Nat) : List Nat := ((succ g y).take k).map (toF tl)
def renG (g : List (List Nat)) (tl : List Nat) : List (List Nat) := (List.range g.length).map fun y => (succ g (tl.idxOf y)).map (toF tl)
theorem Bij.idx {n : Nat} {tl : List Nat} (h : Bij n tl) {u a : Nat} (ha : tl[u]? = some a) : tl.idxOf a = u := by
  have hm : a ∈ tl := List.mem_of_getElem? ha
  have hl : tl.idxOf a < tl.length := List.idxOf_lt_length_of_mem hm
  refine h.inj _ _ a ?_ ha
  rw [List.getElem?_eq_getElem hl, List.getElem_idxOf]
theorem Bij.get {n : Nat} {tl : List Nat} (h : Bij n tl) {x : Nat} (hx : x < n) : tl[x]? = some (toF tl x) := by
  have hl : x < tl.length := by rw [h.len]; exact hx
  unfold toF
  rw [List.getD_eq_getElem?_getD, List.getElem?_eq_getElem hl]; rfl
theorem Bij.idxlt {n : Nat} {tl : List Nat} (h : Bij n tl) {y : Nat} (hy : y < n) : tl.idxOf y < n ∧ toF tl (tl.idxOf y) = y := by
  obtain ⟨x, hx⟩ := h.surj y hy
  have hxl : x < n := by rw [← h.len]; exact (List.getElem?_eq_some_iff.1 hx).1
  rw [h.idx hx]
  have := h.get hxl
  rw [hx] at this
  exact ⟨hxl, (Option.some.inj this).symm⟩
theorem renRow_zero (g : List (List Nat)) (tl : List Nat) (y : Nat) : renRow g tl y 0 = [] := by simp [renRow]
theorem renRow_succ {g : List (List Nat)} {tl : List Nat} {y k s : Nat} (hs : (succ g y)[k]? = some s) : renRow g tl y (k + 1) = renRow g tl y k ++ [toF tl s] := by
  unfold renRow; rw [List.take_add_one, hs, List.map_append]; rfl
theorem renRow_len (g : List (List Nat)) (tl : List Nat) (y k : Nat) : (renRow g tl y k).length ≤ k := by
  unfold renRow; rw [List.length_map, List.length_take]; omega
theorem renG_full (g : List (List Nat)) (tl : List Nat) : ((List.range g.length).map fun y => renRow g tl (tl.idxOf y) ((fun y => (succ g y).length) (tl.idxOf y))) = renG g tl := by
  unfold renG renRow
  exact List.map_congr_left fun y _ => by simp
theorem renG_len (g : List (List Nat)) (tl : List Nat) : (renG g tl).length = g.length := by simp [renG]
theorem renG_ren {g : List (List Nat)} (hv : ValidG g) {tl : List Nat} (h : Bij g.length tl) : Ren g (renG g tl) (toF tl) := by
  refine ⟨hv, renG_len g tl, fun x hx => h.lt _ _ (h.get hx), fun x y hx hy e => h.inj x y _ (h.get hx) (by rw [e]; exact h.get hy), fun a ha => ⟨tl.idxOf a, (h.idxlt ha).1, (h.idxlt ha).2⟩, ?_, fun u hu => ?_⟩
  · have := h.get hv.1; rw [h.zero] at this; exact (Option.some.inj this).symm
  · have hl := h.lt _ _ (h.get hu)
    show (renG g tl).getD (toF tl u) [] = _
    unfold renG
    rw [List.getD_eq_getElem?_getD, List.getElem?_map, List.getElem?_range hl]
    show (succ g (tl.idxOf (toF tl u))).map (toF tl) = _
    rw [h.idx (h.get hu)]

set_option maxRecDepth 100000 in
set_option maxHeartbeats 3200000 in
theorem renamed_any (w : World) (sv : Value) (g : List (List Nat)) (h : GraphIn w sv g) (hgn : g.length ≤ 20) (lb : Nat) (tl : List Nat) (hlb : w.heap[lb]? = some (.cells (tl.map encNat).toArray 3 (0, 0))) (hB : Bij g.length tl) :
    Calls Try.prog 34 #[.agg #[sv], .slice (some ⟨lb, 0, none⟩) g.length g.length] w (RetGraph w (renG g tl)) := by
  obtain ⟨a, cap, rfl, hcap⟩ := h.rows.form
  obtain ⟨bp, op, rfl⟩ : ∃ bg og, a = some ⟨bg, og, none⟩ := by
    obtain ⟨b, o, _, _, e, _⟩ := h.rows.row (List.getElem?_eq_getElem h.valid.1); exact ⟨b, o, e⟩
  have hmk := run_make_row' (P := Try.prog) 22 29 (.slice none 0 0) 24 Try.underlying22 Try.info_ints rfl .i64 .i64 g.length (by omega) (by omega)
  obtain ⟨V, hV⟩ : ∃ V, (w.alloc (.cells #[.slice (some ⟨bp, op, none⟩) g.length cap] 24)).alloc (.cells #[.slice none 0 0] 24) = V := ⟨_, rfl⟩
  have hVb : Below w.heap.size w V := by rw [← hV]; exact ((Below.refl _ w).alloc (Nat.le_refl _) _).alloc (by simp) _
  have hVs : V.heap.size = w.heap.size + 1 + 1 := by rw [← hV]; simp
  have cv2 : V.cell? ⟨w.heap.size, 0, none⟩ = some (.slice (some ⟨bp, op, none⟩) g.length cap) := by rw [← hV]; exact cell_of_one (alloc_blk (new_at rfl))
  have hres : V.heap[w.heap.size + 1]? = some (.cells #[.slice none 0 0] 24 (0, 0)) := by rw [← hV]; exact new_at (by simp)
  have HV2 := Lib.hid (h.below hVb)
  have HLB := Lib.hid (And.intro (below_blk hVb hlb (lt_of_block hlb)) (lt_of_block hlb))
  have HB := Lib.hid hB
  have HRL := Lib.hid h.row
  have HGV := Lib.hid h.valid
  have HVB := Lib.hid hVb
  have HRES := Lib.hid hres
  have HM0 := Lib.hid (GMem.start V g.length 2000000)
  have HVS := Lib.hid hVs
  have hbxV : w.heap.size < V.heap.size := by omega
  obtain ⟨ii, hii, hzi0, hzi1, hzi2⟩ := info_parts Try.info_int
  have HV := Lib.hid hV
  clear h hlb hB hVb hVs hres hV
  go_enter Try.func34, Try.ntmps34
  go_upto_region 1 with fail
  rw [HV.out]
  go_wp2
  go_loopw [17] (fun uv wr => ∃ u : Nat, u ≤ g.length ∧ uv = .int .i64 (u : Int) ∧ Hid (GMem V wr V.heap.size (V.heap.size + 1) g.length 2000000 (partG g.length (fun y => tl.idxOf y) (renRow g tl) (fun y => (succ g y).length) u 0))) (fun uv _ => g.length - (intOf uv).toNat)
  case atStart => exact ⟨0, Nat.zero_le _, rfl, by rw [partG_start (renRow_zero g tl)]; exact HM0⟩
  case round =>
    obtain ⟨u, hu, rfl, HU⟩ := hrel
    have cgr := (HU.out.hb.cell (p := ⟨w.heap.size, 0, none⟩) hbxV).trans cv2
    by_cases hltu : u < g.length
    · have hltuI : (u : Int) < g.length := by omega
      have HLTU := Lib.hid hltu
      obtain ⟨row, hrow⟩ : ∃ row, g[u]? = some row := ⟨_, List.getElem?_eq_getElem hltu⟩
      have hsucc : succ g u = row := by unfold succ; rw [List.getD_eq_getElem?_getD, hrow]; rfl
      have hrl := HRL.out row (List.mem_of_getElem? hrow)
      obtain ⟨bg, og, a2, cap2, e1, hbg, hc1, hcap2, hx⟩ := HV2.out.rows.row hrow
      cases e1
      have hcr := (HU.out.hb.cell (p := ⟨bp, op + u, none⟩) hbg).trans hc1
      have HROW := Lib.hid (And.intro hrow hsucc)
      have HX := Lib.hid hx
      have hau := HB.out.get hltu
      have hal := HB.out.lt _ _ hau
      have hai := HB.out.idx hau
      generalize hae : toF tl u = ta at *
      have HAU := Lib.hid (And.intro hau (And.intro hal (And.intro hai hae)))
      have htaI : (ta : Int) < g.length := by omega
      clear hrow hsucc hltu hc1 hbg hx hau hal hai hae
      go_wp2
      go_loopw [26] (fun kv wx => ∃ k : Nat, k ≤ row.length ∧ kv = .int .i64 (k : Int) ∧ Hid (GMem V wx V.heap.size (V.heap.size + 1) g.length 2000000 (partG g.length (fun y => tl.idxOf y) (renRow g tl) (fun y => (succ g y).length) u k))) (fun kv _ => row.length - (intOf kv).toNat)
      case atStart => exact ⟨0, Nat.zero_le _, rfl, HU⟩
      case round =>
        obtain ⟨k, hk, rfl, HK⟩ := hrel
        by_cases hltk : k < row.length
        · have hltkI : (k : Int) < row.length := by omega
          have HLTK := Lib.hid hltk
          obtain ⟨s, hsk⟩ : ∃ s, row[k]? = some s := ⟨_, List.getElem?_eq_getElem hltk⟩
          obtain ⟨b2, o2, rfl, hb2, cs1⟩ := HX.out k s hsk
          have cs2 := (HK.out.hb.cell (p := ⟨b2, o2 + k, none⟩) hb2).trans cs1
          simp only [encNat] at cs2
          have hsg : s < g.length := HGV.out.2 row (List.mem_of_getElem? HROW.out.1) s (List.mem_of_getElem? hsk)
          have hsgI : (s : Int) < g.length := by omega
          have hbs := HB.out.get hsg
          have htl := below_blk HK.out.hb HLB.out.1 (lt_of_block HLB.out.1)
          have cta : wr.cell? ⟨lb, u, none⟩ = some (.int .i64 (ta : Int)) := cell_of_blk htl (by rw [List.getElem?_toArray, List.getElem?_map, HAU.out.1]; rfl)
          have ctb : wr.cell? ⟨lb, s, none⟩ = some (.int .i64 ((toF tl s : Nat) : Int)) := cell_of_blk htl (by rw [List.getElem?_toArray, List.getElem?_map, hbs]; rfl)
          have lbl : lb < wr.heap.size := lt_of_block htl
          have hus := renRow_succ (g := g) (tl := tl) (y := u) (by rw [HROW.out.2]; exact hsk)
          generalize toF tl s = tb at *
          have HUS := Lib.hid hus
          have hul := renRow_len g tl u k
          have hR := partG_at (fr := fun y => tl.idxOf y) (row := renRow g tl) (len := fun y => (succ g y).length) (u := u) (k := k) HAU.out.2.1 HAU.out.2.2.1
          have hps : (partG g.length (fun y => tl.idxOf y) (renRow g tl) (fun y => (succ g y).length) u k).set ta (renRow g tl u k ++ [tb]) = partG g.length (fun y => tl.idxOf y) (renRow g tl) (fun y => (succ g y).length) u (k + 1) := by
            rw [← partG_set (fr := fun y => tl.idxOf y) (u := u) HAU.out.2.1 HAU.out.2.2.1 (fun y hy e => by have := (HB.out.idxlt hy).2; rw [show tl.idxOf y = u from e, HAU.out.2.2.2] at this; exact this.symm) (k + 1), HUS.out]
          have HPS := Lib.hid hps
          clear hps hsk hus hltk cs1 hb2 hsg hbs htl
          generalize hRe : renRow g tl u k = ur at *
          have HRE := Lib.hid hRe
          obtain ⟨ap, capp, cp, hop, fp⟩ := HK.out.hr.get hR
          have lbg := lt_of_block HK.out.hg
          have lbp := HK.out.hr.bplt
          obtain ⟨cc, hcc⟩ := HK.out.hr.blk
          have nbg := ownsRow_block_ne hop HK.out.hg (.inr (by decide))
          have nbp := ownsRow_block_ne hop hcc (.inr (by decide))
          have nbl : (Value.slice ap ur.length capp).ownBlock ≠ some lb := fun e => by have := (hop.lt _ e).1; have := HLB.out.2; have := HVS.out; omega
          have chr : wr.cell? ⟨V.heap.size + 1, 0, none⟩ = some (.slice (some ⟨V.heap.size, 0, none⟩) g.length g.length) := cell_of_blk HK.out.hg (by simp)
          have HR := Lib.hid (And.intro hR hop)
          have hszV := HK.out.hb.size
          clear hcc hR hop hRe
          have fp' : ∀ o, (wr.alloc o).frozen? ⟨V.heap.size, ta, none⟩ = false := fun o => (World.frozen?_of_block (w := wr) (Below.heap_alloc _ _ _ lbp)).trans fp
          have cp' : ∀ o, (wr.alloc o).cell? ⟨V.heap.size, ta, none⟩ = some (.slice ap ur.length capp) := fun o => (World.cell?_of_block (w := wr) (Below.heap_alloc _ _ _ lbp)).trans cp
          have chr' : ∀ o, (wr.alloc o).cell? ⟨V.heap.size + 1, 0, none⟩ = some (.slice (some ⟨V.heap.size, 0, none⟩) g.length g.length) := fun o => (World.cell?_of_block (w := wr) (Below.heap_alloc _ _ _ lbg)).trans chr
          have cta' : ∀ o, (wr.alloc o).cell? ⟨lb, u, none⟩ = some (.int .i64 (ta : Int)) := fun o => (World.cell?_of_block (w := wr) (Below.heap_alloc _ _ _ lbl)).trans cta
          have ctb' : ∀ o, (wr.alloc o).cell? ⟨lb, s, none⟩ = some (.int .i64 (tb : Int)) := fun o => (World.cell?_of_block (w := wr) (Below.heap_alloc _ _ _ lbl)).trans ctb
          have nlv : V.heap.size ≠ lb := by have := HLB.out.2; have := HVS.out; omega
          go_upto_region 8 with fail
          -- region 8 by hand
          refine wp_region_noPanic ?_
          refine wp_region_held_drew (S := fun w' => w'.cell? ⟨V.heap.size + 1, 0, none⟩ = some (.slice (some ⟨V.heap.size, 0, none⟩) g.length g.length) ∧ w'.cell? ⟨lb, u, none⟩ = some (.int .i64 (ta : Int)) ∧ w'.cell? ⟨lb, s, none⟩ = some (.int .i64 (tb : Int))) (by kernel_rfl) ⟨chr, cta, ctb⟩ (fun hHeld => ?_)
          refine wpAnyH_take (i := 0) (oi := _) (v := ?_) rfl (by kernel_rfl) (by kernel_rfl) (by kernel_rfl) (fun _ _ _ h => h) (Or.inl ⟨by rfl, ?_⟩) (by assumption) ?_
          rotate_left
          · (intro w hSw; (try dsimp only at hSw); go_simp; try with_reducible rfl)
          (try simp only [Act.put, List.setIfInBounds_toArray, List.set_cons_zero, List.set_cons_succ])
          refine wpAnyH_take (i := 1) (oi := _) (v := ?_) rfl (by kernel_rfl) (by kernel_rfl) (by kernel_rfl) (fun _ _ _ h => h) (Or.inl ⟨by rfl, ?_⟩) (by assumption) ?_
          rotate_left
          · (intro w hSw; (try dsimp only at hSw); go_simp; try with_reducible rfl)
          (try simp only [Act.put, List.setIfInBounds_toArray, List.set_cons_zero, List.set_cons_succ])
          refine wpAnyH_take (i := 2) (oi := _) (v := ?_) rfl (by kernel_rfl) (by kernel_rfl) (by kernel_rfl) (fun _ _ _ h => h) (Or.inl ⟨by rfl, ?_⟩) (by assumption) ?_
          rotate_left
          · (intro w hSw; (try dsimp only at hSw); go_simp; try with_reducible rfl)
          (try simp only [Act.put, List.setIfInBounds_toArray, List.set_cons_zero, List.set_cons_succ])
          refine wpAnyH_take (i := 3) (oi := _) (v := ?_) rfl (by kernel_rfl) (by kernel_rfl) (by kernel_rfl) (fun _ _ _ h => h) (Or.inl ⟨by rfl, ?_⟩) (by assumption) ?_
          rotate_left
          · (intro w hSw; (try dsimp only at hSw); go_simp; try with_reducible rfl)
          (try simp only [Act.put, List.setIfInBounds_toArray, List.set_cons_zero, List.set_cons_succ])
          refine wpAnyH_take (i := 4) (oi := _) (v := ?_) rfl (by kernel_rfl) (by kernel_rfl) (by kernel_rfl) (fun _ _ _ h => h) (Or.inl ⟨by rfl, ?_⟩) (by assumption) ?_
          rotate_left
          · (intro w hSw; (try dsimp only at hSw); go_simp; try with_reducible rfl)
          (try simp only [Act.put, List.setIfInBounds_toArray, List.set_cons_zero, List.set_cons_succ])
          refine wpAnyH_take (i := 5) (oi := _) (v := ?_) rfl (by kernel_rfl) (by kernel_rfl) (by kernel_rfl) (fun _ _ _ h => h) (Or.inl ⟨by rfl, ?_⟩) (by assumption) ?_
          rotate_left
          · (intro w hSw; (try dsimp only at hSw); go_simp; try with_reducible rfl)
          (try simp only [Act.put, List.setIfInBounds_toArray, List.set_cons_zero, List.set_cons_succ])
          refine wpAnyH_take (i := 6) (oi := _) (v := ?_) rfl (by kernel_rfl) (by kernel_rfl) (by kernel_rfl) (fun _ _ _ h => h) (Or.inl ⟨by rfl, ?_⟩) (by assumption) ?_
          rotate_left
          · (intro w hSw; (try dsimp only at hSw); go_simp; try with_reducible rfl)
          (try simp only [Act.put, List.setIfInBounds_toArray, List.set_cons_zero, List.set_cons_succ])
          refine wpAnyH_take (i := 7) (oi := _) (v := ?_) rfl (by kernel_rfl) (by kernel_rfl) (by kernel_rfl) (fun _ _ _ h => h) (Or.inl ⟨by rfl, ?_⟩) (by assumption) ?_
          rotate_left
          · (intro w hSw; (try dsimp only at hSw); go_simp; try with_reducible rfl)
          (try simp only [Act.put, List.setIfInBounds_toArray, List.set_cons_zero, List.set_cons_succ])
          refine wpAnyH_take (i := 8) (oi := _) (v := ?_) rfl (by kernel_rfl) (by kernel_rfl) (by kernel_rfl) (fun _ _ _ h => h) (Or.inl ⟨by rfl, ?_⟩) (by assumption) ?_
          rotate_left
          · (intro w hSw; (try dsimp only at hSw); go_simp; try with_reducible rfl)
          (try simp only [Act.put, List.setIfInBounds_toArray, List.set_cons_zero, List.set_cons_succ])
          refine wpAnyH_take (i := 9) (oi := _) (v := ?_) rfl (by kernel_rfl) (by kernel_rfl) (by kernel_rfl) (fun _ _ _ h => h) (Or.inl ⟨by rfl, ?_⟩) (by assumption) ?_
          rotate_left
          · (intro w hSw; (try dsimp only at hSw); go_simp; try with_reducible rfl)
          (try simp only [Act.put, List.setIfInBounds_toArray, List.set_cons_zero, List.set_cons_succ])
          refine wpAnyH_take (i := 10) (oi := _) (v := ?_) rfl (by kernel_rfl) (by kernel_rfl) (by kernel_rfl) (fun _ _ _ h => h) (Or.inl ⟨by rfl, ?_⟩) (by assumption) ?_
          rotate_left
          · (intro w hSw; (try dsimp only at hSw); go_simp; try with_reducible rfl)
          (try simp only [Act.put, List.setIfInBounds_toArray, List.set_cons_zero, List.set_cons_succ])
          refine wpAnyH_take (i := 11) (oi := _) (v := ?_) rfl (by kernel_rfl) (by kernel_rfl) (by kernel_rfl) (fun _ _ _ h => h) (Or.inl ⟨by rfl, ?_⟩) (by assumption) ?_
          rotate_left
          · (intro w hSw; (try dsimp only at hSw); go_simp; try with_reducible rfl)
          (try simp only [Act.put, List.setIfInBounds_toArray, List.set_cons_zero, List.set_cons_succ])
          refine wpAnyH_take (i := 12) (oi := _) (v := ?_) rfl (by kernel_rfl) (by kernel_rfl) (by kernel_rfl) (fun _ _ _ h => h) (Or.inl ⟨by rfl, ?_⟩) (by assumption) ?_
          rotate_left
          · (intro w hSw; (try dsimp only at hSw); go_simp; try with_reducible rfl)
          (try simp only [Act.put, List.setIfInBounds_toArray, List.set_cons_zero, List.set_cons_succ])
          refine wpAnyH_take (i := 14) (oi := _) (v := ?_) rfl (by kernel_rfl) (by kernel_rfl) (by kernel_rfl) (fun _ _ _ h => h) (Or.inl ⟨by rfl, ?_⟩) (by assumption) ?_
          rotate_left
          · (intro w hSw; (try dsimp only at hSw); go_simp; try with_reducible rfl)
          (try simp only [Act.put, List.setIfInBounds_toArray, List.set_cons_zero, List.set_cons_succ])
          refine wpAnyH_take (i := 15) (oi := _) (v := ?_) rfl (by kernel_rfl) (by kernel_rfl) (by kernel_rfl) (fun _ _ _ h => h) (Or.inl ⟨by rfl, ?_⟩) (by assumption) ?_
          rotate_left
          · (intro w hSw; (try dsimp only at hSw); go_simp; try with_reducible rfl)
          (try simp only [Act.put, List.setIfInBounds_toArray, List.set_cons_zero, List.set_cons_succ])
          refine wpAnyH_take (i := 16) (oi := _) (v := ?_) rfl (by kernel_rfl) (by kernel_rfl) (by kernel_rfl) (fun _ _ _ h => h) (Or.inl ⟨by rfl, ?_⟩) (by assumption) ?_
          rotate_left
          · (intro w hSw; (try dsimp only at hSw); go_simp; try with_reducible rfl)
          (try simp only [Act.put, List.setIfInBounds_toArray, List.set_cons_zero, List.set_cons_succ])
          refine wpAnyH_take (i := 17) (oi := _) (v := ?_) rfl (by kernel_rfl) (by kernel_rfl) (by kernel_rfl) (fun _ _ _ h => h) (Or.inl ⟨by rfl, ?_⟩) (by assumption) ?_
          rotate_left
          · (intro w hSw; (try dsimp only at hSw); go_simp; try with_reducible rfl)
          (try simp only [Act.put, List.setIfInBounds_toArray, List.set_cons_zero, List.set_cons_succ])
          refine wpAnyH_ready (rs := [13, 18]) (by kernel_rfl) (by simp) ?_
          refine AllReadyH.cons (o := _) rfl (fun K hK => ?_) ?_
          · skip
            go_simp
            refine hK.out _ _ (by first | assumption | exact ⟨chr, cta, ctb⟩ | exact ⟨chr' _, cta' _, ctb' _⟩) (fun hHeld => ?_)
            clear hK K
            (try simp only [Act.put, List.setIfInBounds_toArray, List.set_cons_zero, List.set_cons_succ])
            refine wpAnyH_ready (rs := [18]) (by kernel_rfl) (by simp) ?_
            refine AllReadyH.cons (o := _) rfl (fun K hK => ?_) ?_
            · skip
              go_simp
              refine hK.out _ _ (by first | assumption | exact ⟨chr, cta, ctb⟩ | exact ⟨chr' _, cta' _, ctb' _⟩) (fun hHeld => ?_)
              clear hK K
              (try simp only [Act.put, List.setIfInBounds_toArray, List.set_cons_zero, List.set_cons_succ])
              refine wpAnyH_ready (rs := [19]) (by kernel_rfl) (by simp) ?_
              refine AllReadyH.cons (o := _) rfl (fun K hK => ?_) ?_
              · skip
                (refine step_append_lies _ (by rfl) (.tmp 43) (.tmp 48) _ (by rfl) V.heap.size 3 ii (.int .i64 0) 1 8 Try.underlying29 hii hzi0 hzi1 hzi2 rfl (by omega) (.slice ap ur.length capp) ur.length (ur.map encNat) (by rfl) ((HR.out.2.alloc _).drew) ⟨wr.heap.size, 0, none⟩ 1 1 [.int .i64 (tb : Int)] (by rfl) (by rfl) (World.news_of_block (cs := #[.int .i64 (tb : Int)]) (t := 3) (fr := (0, 0)) (heap_alloc_new wr _)) (by simp [Value.oneCell']) (by omega) (by unfold maxLen; omega) (by omega) (by simp; omega) (wr.heap.size + 1) (by simp) ?_; intro gg cap3 w3 hown3 hgrow hat hlt4; have c23 := (hgrow.cell_far ⟨V.heap.size + 1, 0, none⟩ (by simp; omega) (Ne.symm nbg)).trans (chr' _); have cp3 := (hgrow.cell_far ⟨V.heap.size, ta, none⟩ (by simp; omega) (Ne.symm nbp)).trans (cp' _); have fp3 := (hgrow.frozen_far ⟨V.heap.size, ta, none⟩ (by simp; omega) (Ne.symm nbp)).trans (fp' _); have cta3 := (hgrow.cell_far ⟨lb, u, none⟩ (by simp; omega) (Ne.symm nbl)).trans (cta' _); have ctb3 := (hgrow.cell_far ⟨lb, s, none⟩ (by simp; omega) (Ne.symm nbl)).trans (ctb' _); have sk1 := fun v => (World.cell?_setCell_far w3 ⟨V.heap.size, ta, none⟩ ⟨V.heap.size + 1, 0, none⟩ v (by simp)).trans c23; have sk2 := fun v => (World.cell?_setCell_far w3 ⟨V.heap.size, ta, none⟩ ⟨lb, u, none⟩ v nlv).trans cta3; have sk3 := fun v => (World.cell?_setCell_far w3 ⟨V.heap.size, ta, none⟩ ⟨lb, s, none⟩ v nlv).trans ctb3)
                refine hK.out _ _ ⟨c23, cta3, ctb3⟩ (fun hHeld => ?_)
                clear hK K
                (try simp only [Act.put, List.setIfInBounds_toArray, List.set_cons_zero, List.set_cons_succ])
                refine wpAnyH_take (i := 20) (oi := _) (v := ?_) rfl (by kernel_rfl) (by kernel_rfl) (by kernel_rfl) (fun _ _ _ h => h) (Or.inl ⟨by rfl, ?_⟩) (by assumption) ?_
                rotate_left
                · (intro w hSw; (try dsimp only at hSw); go_simp; try with_reducible rfl)
                (try simp only [Act.put, List.setIfInBounds_toArray, List.set_cons_zero, List.set_cons_succ])
                refine wpAnyH_ready (rs := [21]) (by kernel_rfl) (by simp) ?_
                refine AllReadyH.cons (o := _) rfl (fun K hK => ?_) ?_
                · skip
                  go_simp
                  refine hK.out _ _ ⟨sk1 _, sk2 _, sk3 _⟩ (fun hHeld => ?_)
                  clear hK K
                  (try simp only [Act.put, List.setIfInBounds_toArray, List.set_cons_zero, List.set_cons_succ])
                  refine wpAnyH_done (by kernel_rfl) (NoPanic.normal ?_) _
                  all_goals go_wp2_with fail
                  all_goals go_roundw
                  all_goals first
                    | (have := HLTK.out; simp [intOf]; omega)
                    | (refine ⟨k + 1, HLTK.out, by go_num, ?_⟩
                       have hput := HK.out.put (row' := ur ++ [tb]) HR.out.1 cp (grownBy_of_drew hgrow) (by simpa [encNat] using hown3) hat (by omega) (by simp; omega)
                       rw [HPS.out] at hput
                       simpa using Lib.hid hput)
                · exact AllReadyH.nil
              · exact AllReadyH.nil
            · exact AllReadyH.nil
          · skip
            refine AllReadyH.cons (o := _) rfl (fun K hK => ?_) ?_
            · skip
              go_simp
              refine hK.out _ _ (by first | assumption | exact ⟨chr, cta, ctb⟩ | exact ⟨chr' _, cta' _, ctb' _⟩) (fun hHeld => ?_)
              clear hK K
              (try simp only [Act.put, List.setIfInBounds_toArray, List.set_cons_zero, List.set_cons_succ])
              refine wpAnyH_ready (rs := [13]) (by kernel_rfl) (by simp) ?_
              refine AllReadyH.cons (o := _) rfl (fun K hK => ?_) ?_
              · skip
                go_simp
                refine hK.out _ _ (by first | assumption | exact ⟨chr, cta, ctb⟩ | exact ⟨chr' _, cta' _, ctb' _⟩) (fun hHeld => ?_)
                clear hK K
                (try simp only [Act.put, List.setIfInBounds_toArray, List.set_cons_zero, List.set_cons_succ])
                refine wpAnyH_ready (rs := [19]) (by kernel_rfl) (by simp) ?_
                refine AllReadyH.cons (o := _) rfl (fun K hK => ?_) ?_
                · skip
                  (refine step_append_lies _ (by rfl) (.tmp 43) (.tmp 48) _ (by rfl) V.heap.size 3 ii (.int .i64 0) 1 8 Try.underlying29 hii hzi0 hzi1 hzi2 rfl (by omega) (.slice ap ur.length capp) ur.length (ur.map encNat) (by rfl) ((HR.out.2.alloc _).drew) ⟨wr.heap.size, 0, none⟩ 1 1 [.int .i64 (tb : Int)] (by rfl) (by rfl) (World.news_of_block (cs := #[.int .i64 (tb : Int)]) (t := 3) (fr := (0, 0)) (heap_alloc_new wr _)) (by simp [Value.oneCell']) (by omega) (by unfold maxLen; omega) (by omega) (by simp; omega) (wr.heap.size + 1) (by simp) ?_; intro gg cap3 w3 hown3 hgrow hat hlt4; have c23 := (hgrow.cell_far ⟨V.heap.size + 1, 0, none⟩ (by simp; omega) (Ne.symm nbg)).trans (chr' _); have cp3 := (hgrow.cell_far ⟨V.heap.size, ta, none⟩ (by simp; omega) (Ne.symm nbp)).trans (cp' _); have fp3 := (hgrow.frozen_far ⟨V.heap.size, ta, none⟩ (by simp; omega) (Ne.symm nbp)).trans (fp' _); have cta3 := (hgrow.cell_far ⟨lb, u, none⟩ (by simp; omega) (Ne.symm nbl)).trans (cta' _); have ctb3 := (hgrow.cell_far ⟨lb, s, none⟩ (by simp; omega) (Ne.symm nbl)).trans (ctb' _); have sk1 := fun v => (World.cell?_setCell_far w3 ⟨V.heap.size, ta, none⟩ ⟨V.heap.size + 1, 0, none⟩ v (by simp)).trans c23; have sk2 := fun v => (World.cell?_setCell_far w3 ⟨V.heap.size, ta, none⟩ ⟨lb, u, none⟩ v nlv).trans cta3; have sk3 := fun v => (World.cell?_setCell_far w3 ⟨V.heap.size, ta, none⟩ ⟨lb, s, none⟩ v nlv).trans ctb3)
                  refine hK.out _ _ ⟨c23, cta3, ctb3⟩ (fun hHeld => ?_)
                  clear hK K
                  (try simp only [Act.put, List.setIfInBounds_toArray, List.set_cons_zero, List.set_cons_succ])
                  refine wpAnyH_take (i := 20) (oi := _) (v := ?_) rfl (by kernel_rfl) (by kernel_rfl) (by kernel_rfl) (fun _ _ _ h => h) (Or.inl ⟨by rfl, ?_⟩) (by assumption) ?_
                  rotate_left
                  · (intro w hSw; (try dsimp only at hSw); go_simp; try with_reducible rfl)
                  (try simp only [Act.put, List.setIfInBounds_toArray, List.set_cons_zero, List.set_cons_succ])
                  refine wpAnyH_ready (rs := [21]) (by kernel_rfl) (by simp) ?_
                  refine AllReadyH.cons (o := _) rfl (fun K hK => ?_) ?_
                  · skip
                    go_simp
                    refine hK.out _ _ ⟨sk1 _, sk2 _, sk3 _⟩ (fun hHeld => ?_)
                    clear hK K
                    (try simp only [Act.put, List.setIfInBounds_toArray, List.set_cons_zero, List.set_cons_succ])
                    refine wpAnyH_done (by kernel_rfl) (NoPanic.normal ?_) _
                    all_goals go_wp2_with fail
                    all_goals go_roundw
                    all_goals first
                      | (have := HLTK.out; simp [intOf]; omega)
                      | (refine ⟨k + 1, HLTK.out, by go_num, ?_⟩
                         have hput := HK.out.put (row' := ur ++ [tb]) HR.out.1 cp (grownBy_of_drew hgrow) (by simpa [encNat] using hown3) hat (by omega) (by simp; omega)
                         rw [HPS.out] at hput
                         simpa using Lib.hid hput)
                  · exact AllReadyH.nil
                · exact AllReadyH.nil
              · exact AllReadyH.nil
            · exact AllReadyH.nil
        · obtain rfl : k = row.length := by omega
          have hltkI : ¬ (row.length : Int) < row.length := by omega
          go_wp2
          go_roundw
          case rel =>
            refine ⟨u + 1, HLTU.out, by go_num, ?_⟩
            have := partG_next (n := g.length) (fr := fun y => tl.idxOf y) (len := fun y => (succ g y).length) (u := u) (renRow_zero g tl)
            rw [← this]
            show Hid (GMem V wr V.heap.size (V.heap.size + 1) g.length 2000000 (partG g.length (fun y => tl.idxOf y) (renRow g tl) (fun y => (succ g y).length) u (succ g u).length))
            rw [HROW.out.2]; exact HK
          case measure => have := HLTU.out; simp [intOf]; omega
    · obtain rfl : u = g.length := by omega
      have hltuI : ¬ (g.length : Int) < g.length := by omega
      have hG := HU.out
      rw [partG_full (fr := fun y => tl.idxOf y) (fun y hy => (HB.out.idxlt hy).1), renG_full g tl] at hG
      have HG := Lib.hid hG
      have chr : wr.cell? ⟨V.heap.size + 1, 0, none⟩ = some (.slice (some ⟨V.heap.size, 0, none⟩) g.length g.length) := cell_of_blk hG.hg (by simp)
      have hrb := below_blk hG.hb HRES.out (lt_of_block HRES.out)
      have cgs : wr.cell? ⟨w.heap.size + 1, 0, none⟩ = some (.slice none 0 0) := cell_of_blk hrb (by simp)
      have fgs : wr.frozen? ⟨w.heap.size + 1, 0, none⟩ = false := free_of_blk hrb
      have cgs2 : (wr.setCell ⟨w.heap.size + 1, 0, none⟩ (.slice (some ⟨V.heap.size, 0, none⟩) g.length g.length)).cell? ⟨w.heap.size + 1, 0, none⟩ = some (.slice (some ⟨V.heap.size, 0, none⟩) g.length g.length) := cell_of_blk (heap_setCell_self hrb _) (by simp)
      clear hG hrb HU
      go_wp2
      try simp only [Exit.inBlock, Exit.then]
      refine bodyPost_ret (v := .agg #[.slice (some ⟨V.heap.size, 0, none⟩) g.length g.length]) ?_ rfl ?_
      · rw [results_cell1 rfl]
        go_simp
      · have hvs := HVS.out
        have hS := renG_ren HGV.out HB.out
        have hlen := renG_len g tl
        refine ⟨V.heap.size, by rw [hlen], by omega, ?_, ⟨hS.vh, by rw [hlen]; omega, fun r hr => HG.out.hrl r hr⟩, (HVB.out.trans (HG.out.hb.mono (by omega))).setCell (by show w.heap.size ≤ w.heap.size + 1; omega) _⟩
        obtain ⟨vs, v1, v2, v3, v4⟩ := HG.out.hr
        exact ⟨vs, set_blk v1 (by show V.heap.size ≠ w.heap.size + 1; omega), v2, fun j row v hj hv => ownsRow_mono (ownsRow_setCell_below (v3 j row v hj hv) (by show w.heap.size + 1 < V.heap.size; omega) _) (by omega), v4⟩
end Go.Proofs.Ytpfinkcnklkclaa
