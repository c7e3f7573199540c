/-
  The walk of the reference's From.
-/
import Derived.Test.YtojclalkfhoooaaGFrom0
import Derived.Test.YtojclalkfhoooaaGLoop0
import Derived.Test.YtojclalkfhoooaaMath
set_option linter.unusedVariables false
set_option linter.unusedSimpArgs false
set_option maxRecDepth 8000
namespace Go.Proofs.Ytojclalkfhoooaa
open Go.RowKit

/-- What lies in memory while From runs: the row of bools (block bs), the work list. -/
structure FMem (w0 w : World) (bs : Nat) (seen : List Bool) (wv : Value) (work : List Nat) : Prop where
  hs : w.heap[bs]? = some (.cells (seen.map encBool).toArray 4 (0, 0))
  hp : w.ownsRow (bs + 1) 3 1 wv work.length (work.map encNat)
  hb : Below bs w0 w
theorem FMem.mark {w0 w : World} {bs n : Nat} {seen : List Bool} {wv : Value} {work : List Nat} (h : FMem w0 w bs seen wv work) : FMem w0 (w.setCell ⟨bs, n, none⟩ (.bool true)) bs (seen.set n true) wv work := by
  obtain ⟨hs, hp, hb⟩ := h
  refine ⟨?_, ownsRow_setCell_other hp (ownsRow_block_ne (b := bs) hp hs (.inr (by decide))) _, hb.setCell (show bs ≤ bs from Nat.le_refl _) _⟩
  rw [heap_setCell_self hs]
  simp [encBool, List.map_set]
theorem FMem.push {w0 w w2 : World} {bs : Nat} {seen : List Bool} {wv wv' : Value} {work work' : List Nat} (h : FMem w0 w bs seen wv work) (o : Obj) (hg : (w.alloc o).grownBy w2 wv.ownBlock) (ho : w2.ownsRow (bs + 1) 3 1 wv' work'.length (work'.map encNat)) : FMem w0 w2 bs seen wv' work' := by
  obtain ⟨hs, hp, hb⟩ := h
  have hl := lt_of_block hs
  exact ⟨grown_blk hg (alloc_blk hs) (ownsRow_block_ne (b := bs) hp hs (.inr (by decide))), ho, (hb.alloc (by omega) o).grown hg (by simp; omega) (fun k e => by have := (hp.lt k e).1; omega)⟩
theorem FMem.pop {w0 w : World} {bs g cap x : Nat} {seen : List Bool} {st : List Nat} (h : FMem w0 w bs seen (.slice (some ⟨g, 0, none⟩) (st.length + 1) cap) (st ++ [x])) : FMem w0 w bs seen (.slice (some ⟨g, 0, none⟩) st.length cap) st := by
  obtain ⟨hs, hp, hb⟩ := h
  simp only [List.length_append, List.length_singleton, List.map_append, List.map_cons, List.map_nil] at hp
  exact ⟨hs, ownsRow_pop hp, hb⟩
theorem unseen_replicate' (n : Nat) : unseen (List.replicate n false) = n := by simp [unseen]
def RetBools (w : World) (F : List Bool) (e : Ending) (w' : World) : Prop := ∃ bs, e = .returned (.slice (some ⟨bs, 0, none⟩) F.length F.length) ∧ w.heap.size ≤ bs ∧ w'.heap[bs]? = some (.cells (F.map encBool).toArray 4 (0, 0)) ∧ Below w.heap.size w w'

set_option maxRecDepth 100000 in
set_option maxHeartbeats 1600000 in
theorem from_any (w : World) (sv : Value) (g : List (List Nat)) (B : Nat) (hB : B ≤ w.heap.size) (h : RowsOf encNat w B sv g) (hv : ValidG g) (hn : g.length ≤ 2000000) (hr : ∀ row ∈ g, row.length ≤ 2000000) (fr : Nat) (hfr : fr < g.length) (out : Int) (F : List Bool) (hF : FromOf g fr out F) :
    Calls Try.prog 106 #[.agg #[sv], .int .i64 (fr : Int), .int .i64 out] w (RetBools w F) := by
  obtain ⟨a, cap, rfl, hcap⟩ := h.form
  obtain ⟨ii, hii, hzi0, hzi1, hzi2⟩ := info_parts Try.info_int
  have cg : (w.alloc (.cells #[.slice a g.length cap] 93)).cell? ⟨w.heap.size, 0, none⟩ = some (.slice a g.length cap) := cell_of_one (new_at rfl)
  have HV := Lib.hid hv
  have HR := Lib.hid hr
  have HF := Lib.hid hF
  clear hv hr hF
  have hmk := run_make_row' (P := Try.prog) 141 4 (.bool false) 1 Try.underlying141 Try.info_bool rfl .i64 .i64 g.length (by omega) (by omega)
  rcases HF.out with ⟨hfo, hFF⟩ | ⟨hfo, k0, hFR⟩
  · have htest : ((fr : Int) == out) = true := by simpa using hfo
    have HFF := Lib.hid hFF
    clear hfo hFF
    go_enter Try.func106, Try.ntmps106
    go_wp2
    go_ret
    have hs : ((w.alloc (.cells #[.slice a g.length cap] 93)).alloc (.cells (madeCells #[.bool false] g.length) 4)).heap[w.heap.size + 1]? = some (.cells ((List.replicate g.length false).map encBool).toArray 4 (0, 0)) := by
      rw [new_at (by simp), toArray_madeCells]; simp [encBool]
    rw [HFF.out]
    exact ⟨w.heap.size + 1, by rw [List.length_replicate]; rfl, by omega, hs, ((Below.refl _ w).alloc (Nat.le_refl _) _).alloc (by simp) _⟩
  · have htest : ((fr : Int) == out) = false := by simpa using hfo
    have HFR := Lib.hid hFR
    have hM0 : FMem (w.alloc (.cells #[.slice a g.length cap] 93)) (((w.alloc (.cells #[.slice a g.length cap] 93)).alloc (.cells (madeCells #[.bool false] g.length) 4)).alloc (.cells #[.int .i64 (fr : Int)] 3)) (w.heap.size + 1) (List.replicate g.length false) (.slice (some ⟨w.heap.size + 2, 0, none⟩) 1 1) [fr] := by
      refine ⟨?_, ⟨by simp, .inr ⟨w.heap.size + 2, 1, _, by simp, by omega, new_at (by simp), by simp, by decide, by simp, by simp [encNat]⟩⟩, ?_⟩
      · rw [alloc_blk (new_at (by simp)), toArray_madeCells]; simp [encBool]
      · exact ((Below.refl _ _).alloc (by simp) _).alloc (by simp) _
    have cs0 := cell_of_blk (i := fr) (v := .bool false) hM0.hs (by simp [encBool, List.getElem?_replicate, hfr])
    have fs0 := free_of_blk (i := fr) hM0.hs
    have hfi : (fr : Int) < g.length := by omega
    have HM1 : Hid (FMem (w.alloc (.cells #[.slice a g.length cap] 93)) (((w.alloc (.cells #[.slice a g.length cap] 93)).alloc (.cells ((madeCells #[.bool false] g.length).setIfInBounds fr (.bool true)) 4)).alloc (.cells #[.int .i64 (fr : Int)] 3)) (w.heap.size + 1) ((List.replicate g.length false).set fr true) (.slice (some ⟨w.heap.size + 1 + 1, 0, none⟩) 1 1) [fr]) := by
      refine ⟨?_, ⟨by simp, .inr ⟨w.heap.size + 2, 1, _, by simp, by omega, new_at (by simp), by simp, by decide, by simp, by simp [encNat]⟩⟩, ?_⟩
      · rw [alloc_blk (new_at (by simp)), toArray_madeCells]; simp only [encBool, List.map_set, List.map_replicate, List.setIfInBounds_toArray]
      · exact ((Below.refl _ _).alloc (by simp) _).alloc (by simp) _
    clear hfo hFR hM0
    go_enter Try.func106, Try.ntmps106
    go_wp2
    go_loopg [8] k0 (fun k v wr => ∃ seen work, Hid (FMem (w.alloc (.cells #[.slice a g.length cap] 93)) wr (w.heap.size + 1) seen v work ∧ FromR g out k seen work F ∧ seen.length = g.length ∧ work.length + unseen seen ≤ 2000001 ∧ ∀ x ∈ work, x < g.length))
    case atStart => exact ⟨_, _, HM1.out, HFR.out, by simp, by have := unseen_set (seen := List.replicate g.length false) (n := fr) (by rw [List.getElem?_replicate, if_pos hfr]); rw [unseen_replicate'] at this; simp; omega, by simpa using hfr⟩
    case round =>
      obtain ⟨seen, work, HI⟩ := hrel
      cases gk with
      | zero =>
        obtain ⟨rfl, rfl⟩ := HI.out.2.1
        obtain ⟨a0, c0, rfl⟩ := ownsRow_form HI.out.1.hp
        simp only [List.length_nil]
        go_wp2
        go_ret
        have hl := HI.out.2.2.1
        refine ⟨w.heap.size + 1, by rw [hl]; rfl, by omega, HI.out.1.hs, ?_⟩
        exact ((Below.refl _ w).alloc (Nat.le_refl _) _).trans (HI.out.1.hb.mono (by omega))
      | succ k =>
        obtain ⟨st, n, rfl, hrun⟩ := HI.out.2.1
        have hFM := HI.out.1
        have ho := hFM.hp
        simp only [List.length_append, List.length_cons, List.length_nil, Nat.zero_add] at ho
        obtain ⟨gw, cpw, rfl, hgw, hgl⟩ := ho.form (by omega)
        have hcp := (ownsRow_le ho).1
        have hcp2 := (ownsRow_le ho).2
        have ce : wr.cell? ⟨gw, st.length, none⟩ = some (.int .i64 (n : Int)) := (ho.cellAt st.length (by omega)).trans (by simp [encNat])
        have hng : n < g.length := HI.out.2.2.2.2 n (by simp)
        have hni : (n : Int) < g.length := by omega
        obtain ⟨row, hrow⟩ : ∃ row, g[n]? = some row := ⟨_, List.getElem?_eq_getElem hng⟩
        have hsucc : succ g n = row := by unfold succ; rw [List.getD_eq_getElem?_getD, hrow]; rfl
        have hbw : Below w.heap.size w wr := ((Below.refl _ w).alloc (Nat.le_refl _) _).trans (hFM.hb.mono (by omega))
        obtain ⟨bg, og, a2, cap2, rfl, hbg, hc, hcap2, hx⟩ := (h.below (hbw.mono hB)).row hrow
        have hcg : wr.cell? ⟨w.heap.size, 0, none⟩ = some (.slice (some ⟨bg, og, none⟩) g.length cap) := (hFM.hb.cell (p := ⟨w.heap.size, 0, none⟩) (show w.heap.size < w.heap.size + 1 by omega)).trans cg
        have HFM2 := Lib.hid hFM.pop
        have HRUN := Lib.hid hrun
        have HROW := Lib.hid (And.intro hrow hsucc)
        have hbw0 := hbw
        have hrl := HR.out row (List.mem_of_getElem? hrow)
        have HW := Lib.hid (And.intro HI.out.2.2.1 HI.out.2.2.2)
        have hle : st.length + 1 ≤ 2000001 := by have := HI.out.2.2.2.1; simp only [List.length_append, List.length_singleton] at this; omega
        clear hFM ho hrun hrow hsucc HI
        go_wp2
        go_loopw [8, 10] (fun v jv wx => ∃ j : Nat, j ≤ row.length ∧ jv = .int .i64 (j : Int) ∧ Hid (FMem (w.alloc (.cells #[.slice (some ⟨bg, og, none⟩) g.length cap] 93)) wx (w.heap.size + 1) ((row.take j).foldl (push1 out) (seen, st)).1 v ((row.take j).foldl (push1 out) (seen, st)).2)) (fun _ jv _ => row.length - (intOf jv).toNat)
        case atStart => exact ⟨0, Nat.zero_le _, rfl, HFM2.out⟩
        case round =>
          obtain ⟨j, hj, rfl, HJ⟩ := hrel
          generalize hst : (row.take j).foldl (push1 out) (seen, st) = s2 at HJ
          have hpf := pushes_facts out (row.take j) (seen, st)
          rw [hst] at hpf
          obtain ⟨sn, wk⟩ := s2
          dsimp only at HJ hpf
          have HST := Lib.hid (And.intro hst hpf)
          obtain ⟨aw, cw, rfl⟩ := ownsRow_form HJ.out.hp
          have hbx : Below w.heap.size w wr := ((Below.refl _ w).alloc (Nat.le_refl _) _).trans (HJ.out.hb.mono (by omega))
          have hcg2 : wr.cell? ⟨w.heap.size, 0, none⟩ = some (.slice (some ⟨bg, og, none⟩) g.length cap) := (HJ.out.hb.cell (p := ⟨w.heap.size, 0, none⟩) (show w.heap.size < w.heap.size + 1 by omega)).trans cg
          obtain ⟨bg', og', a2', cap2', e', hbg', hc', _, hx'⟩ := (h.below (hbx.mono hB)).row HROW.out.1
          cases e'
          have hcc := hc'
          by_cases hlt : (j : Int) < row.length
          · obtain ⟨s, hsj⟩ : ∃ s, row[j]? = some s := ⟨_, List.getElem?_eq_getElem (by omega)⟩
            have hsg : s < g.length := HV.out.2 row (List.mem_of_getElem? HROW.out.1) s (List.mem_of_getElem? hsj)
            have hsg1 : (s : Int) < g.length := by omega
            obtain ⟨b2, o2, rfl, hb2, cs1⟩ := hx' j s hsj
            simp only [encNat] at cs1
            have hl := HW.out.1
            obtain ⟨b0, hb0s⟩ : ∃ b0, sn[s]? = some b0 := ⟨_, List.getElem?_eq_getElem (by omega)⟩
            have csn : wr.cell? ⟨w.heap.size + 1, s, none⟩ = some (.bool b0) := cell_of_blk HJ.out.hs (by simp [hb0s, encBool])
            have fsn : wr.frozen? ⟨w.heap.size + 1, s, none⟩ = false := free_of_blk HJ.out.hs
            have hstep : (row.take (j + 1)).foldl (push1 out) (seen, st) = push1 out (sn, wk) s := by
              rw [List.take_add_one, hsj, List.foldl_append, HST.out.1]; rfl
            have HSTEP := Lib.hid (And.intro hstep hb0s)
            clear hstep hsj hb0s hx' hpf hst
            by_cases hso : (s : Int) = out
            · have htest : ((s : Int) != out) = false := by simpa using hso
              have HSO := Lib.hid hso
              clear hso
              go_wp2
              go_roundw
              case rel =>
                refine ⟨j + 1, by omega, by simp, ?_⟩
                rw [HSTEP.out.1]
                unfold push1
                rw [if_neg (fun h => h.1 HSO.out)]
                exact HJ.out
              case measure => simp [intOf] <;> omega
            · have htest : ((s : Int) != out) = true := by simpa using hso
              have HSO := Lib.hid hso
              clear hso
              cases b0 with
              | true =>
                go_wp2
                go_roundw
                case rel =>
                  refine ⟨j + 1, by omega, by simp, ?_⟩
                  rw [HSTEP.out.1]
                  unfold push1
                  rw [if_neg (fun h => by have := h.2; rw [HSTEP.out.2] at this; simp at this)]
                  exact HJ.out
                case measure => simp [intOf] <;> omega
              | false =>
                have hwk : wk.length ≤ 4000004 := by
                  have h1 := HST.out.2.2
                  have h2 := HW.out.2.1
                  simp only [List.length_append, List.length_singleton] at h1 h2
                  omega
                have HWK := Lib.hid hwk
                have hle2 := (ownsRow_le HJ.out.hp)
                have HM := Lib.hid (HJ.out.mark (n := s))
                have hsz := lt_of_block HJ.out.hs
                go_wp2_with (at_builtin; go_must (refine wpList_append_lies _ rfl (.tmp 70) (.tmp 72) 22 rfl (w.heap.size + 1 + 1) 3 ii (.int .i64 0) 1 8 Try.underlying22 hii hzi0 hzi1 hzi2 rfl (by decide) _ wk.length (wk.map encNat) rfl (HM.out.hp.alloc _) ⟨wr.heap.size, 0, none⟩ 1 1 [.int .i64 (s : Int)] rfl rfl (World.news_of_block (cs := #[.int .i64 (s : Int)]) (new_at (by simp))) (by simp [Value.oneCell']) (by decide) (by unfold maxLen; omega) (by omega) (by simp; omega) (wr.heap.size + 1) (by simp) ?_; intro gq capq w6 hown6 hgrow6 hat6 hlt6; have HO6 := Lib.hid (And.intro hown6 hgrow6); clear hown6 hgrow6))
                go_roundw
                case rel =>
                  refine ⟨j + 1, by omega, by simp, ?_⟩
                  rw [HSTEP.out.1]
                  unfold push1
                  rw [if_pos ⟨HSO.out, HSTEP.out.2⟩]
                  refine HM.out.push _ HO6.out.2 ?_
                  simpa [encNat] using HO6.out.1
                case measure => simp [intOf] <;> omega
          · obtain rfl : j = row.length := by omega
            rw [List.take_length] at hst
            have hst2 : (succ g n).foldl (push1 out) (seen, st) = (sn, wk) := by rw [HROW.out.2]; exact hst
            have hrunk := HRUN.out
            rw [hst2] at hrunk
            have HRK := Lib.hid hrunk
            have hpfx := push_all out row (seen, st) (fun s hs => by rw [HW.out.1]; exact HV.out.2 row (List.mem_of_getElem? HROW.out.1) s hs)
            rw [hst] at hpfx
            have HPF := Lib.hid hpfx
            have HPL := Lib.hid hpf
            clear hrunk hpf hst hst2 hpfx
            go_wp2
            go_roundg k
            refine ⟨sn, wk, HJ.out, HRK.out, ?_, ?_, ?_⟩
            · rw [HPL.out.1]; exact HW.out.1
            · have h1 := HPL.out.2
              have h2 := HW.out.2.1
              simp only [List.length_append, List.length_singleton] at h2
              omega
            · intro x hx
              rcases (HPF.out.2.2.1 x).1 hx with h5 | ⟨h5, _⟩
              · exact HW.out.2.2 x (by simp [h5])
              · exact HV.out.2 row (List.mem_of_getElem? HROW.out.1) x h5
            exact Nat.lt_succ_self k
end Go.Proofs.Ytojclalkfhoooaa
