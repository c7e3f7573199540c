/-
  The walk of flow.Reducible.
-/
import Derived.Test.YtpfinkcnklkclaaDom2
set_option linter.unusedVariables false
set_option linter.unusedSimpArgs false
namespace Go.Proofs.Ytpfinkcnklkclaa
open Go.RowKit Go.Shelf


set_option maxHeartbeats 1600000 in
theorem flow_reducible_is (w : World) (sv : Value) (g : List (List Nat)) (B : Nat) (hB : B ≤ w.heap.size) (h : RowsOf encNat w B sv g) (hv : ValidG g) (hn : g.length ≤ 2000000) (hr : ∀ row ∈ g, row.length ≤ 2000000) (ns : List Nat) (hF : IsOrder g (0 :: ns)) (idom : List Int) (hD : DomOf g ns idom)
    (ok : Nat → Nat → Bool) (hE : ∀ u ∈ 0 :: ns, ∀ s ∈ succ g u, EdgeR idom (atF (0 :: ns) (0 :: ns).length) u s (ok u s)) :
    Calls Try.prog 28 #[.agg #[sv]] w fun e w' => e = .returned (.bool ((0 :: ns).all fun u => (succ g u).all fun s => ok u s)) ∧ Below w.heap.size w w' := by
  obtain ⟨a, cap, rfl, hcap⟩ := h.form
  have hbel : Below w.heap.size w (w.alloc (.cells #[.slice a g.length cap] 24)) := (Below.refl _ _).alloc (Nat.le_refl _) _
  have cg : (w.alloc (.cells #[.slice a g.length cap] 24)).cell? ⟨w.heap.size, 0, none⟩ = some (.slice a g.length cap) := cell_of_one (new_at rfl)
  have HL := Lib.hid (hD.len hv.1)
  have HV := Lib.hid hv
  have HR := Lib.hid hr
  have HF := Lib.hid hF
  have HD := Lib.hid hD
  obtain ⟨f, hf⟩ : ∃ f, f = atF (0 :: ns) (0 :: ns).length := ⟨_, rfl⟩
  rw [← hf] at hE
  have HE := Lib.hid hE
  have HFF := Lib.hid hf
  clear hf
  have hgl := hv.1
  clear hv hr hF hD hE
  go_enter Try.func28, Try.ntmps28
  go_wp2_with (first
    | (go_at_call 18; go_must (refine (flow_valid_nat _ _ g B (by simp; omega) (h.below (hbel.mono hB)) HV.out hn HR.out).mono ?_; rintro e w1 ⟨rfl, hb1⟩; have hbw1 := hbel.trans (hb1.mono (by simp)); have cg1 := (hb1.cell (p := ⟨w.heap.size, 0, none⟩) (by simp)).trans cg; clear cg))
    | (go_at_call 39; go_must (refine (view_any _ _ g B (by have := hbw1.size; omega) (h.below (hbw1.mono hB)) HV.out hn HR.out (0 :: ns) HF.out).mono ?_; rintro e w2 ⟨bv, rfl, hbv, hvr, hb2⟩; have hbw2 := hbw1.trans (hb2.mono hbw1.size); have hsz1 : w.heap.size < w1.heap.size := cellLt cg1; have cg2 := (hb2.cell (p := ⟨w.heap.size, 0, none⟩) hsz1).trans cg1; clear cg1))
    | (go_at_call 40; go_must (refine (dominators_of _ _ bv g HV.out hn HR.out ns HF.out idom HD.out (Nat.le_refl _) hvr).mono ?_; rintro e w3 ⟨b, rfl, hbb, hrow, hb3⟩; have hbw3 := Lib.hid (hbw2.trans (hb3.mono hbw2.size)); have hsz2 : w.heap.size < w2.heap.size := cellLt cg2; have cg3 := (hb3.cell (p := ⟨w.heap.size, 0, none⟩) hsz2).trans cg2; have hvr3 := hvr.below hb3; rw [← HFF.out] at hvr3; have HI := Lib.hid hrow; clear cg2 hvr hb3 hrow; obtain ⟨ov, bm, pv, nm, e0, e1, e2, ho, hm, hm2, hp, hl⟩ := hvr3; have HM := Lib.hid hm; obtain ⟨aO, capO, rfl, hcO, hxO⟩ := ho; have HX := Lib.hid hxO; clear hp e2 hm hxO)))
  have hol := (HF.out.nodes HV.out).1
  simp only [List.length_cons] at hol
  clear hb1 hbw1 hbw2 hb2 hbel
  go_loopw [24] (fun i wr => ∃ k : Nat, k ≤ ns.length + 1 ∧ i = .int .i64 k ∧ (∃ n, wr = w3.drewN n) ∧ Hid (∀ u ∈ (0 :: ns).take k, ∀ s ∈ succ g u, ok u s = true)) (fun i _ => ns.length + 1 - (intOf i).toNat)
  case atStart => exact ⟨0, Nat.zero_le _, rfl, ⟨0, rfl⟩, by simp [Hid]⟩
  case round =>
    obtain ⟨k, hk, rfl, ⟨nd, rfl⟩, HK⟩ := hrel
    by_cases hlt : k < ns.length + 1
    · obtain ⟨u, huk⟩ : ∃ u, (0 :: ns)[k]? = some u := ⟨_, List.getElem?_eq_getElem (by simpa using hlt)⟩
      have hu := (HF.out.nodes HV.out).2 u (List.mem_of_getElem? huk)
      have hlt1 : (k : Int) < ns.length + 1 := by omega
      have hui : (u : Int) < g.length := by omega
      obtain ⟨bo, oo, rfl, hbo, co⟩ := HX.out k u huk
      obtain ⟨row, hrow⟩ : ∃ row, g[u]? = some row := ⟨_, List.getElem?_eq_getElem hu⟩
      obtain ⟨bg, og, a2, cap2, rfl, hbg, hc, hcap2, hx⟩ := (h.below (hbw3.out.mono hB)).row hrow
      have hrl := HR.out row (List.mem_of_getElem? hrow)
      have HROW := Lib.hid hrow
      have HXR := Lib.hid hx
      have HUK := Lib.hid huk
      simp only [encNat] at co
      clear hx hrow huk
      go_wp2
      go_loopw [34] (fun i wr => ∃ j : Nat, j ≤ row.length ∧ i = .int .i64 j ∧ (∃ n, wr = w3.drewN n) ∧ Hid (∀ s ∈ row.take j, ok u s = true)) (fun i _ => row.length - (intOf i).toNat)
      case atStart => exact ⟨0, Nat.zero_le _, rfl, ⟨nd, rfl⟩, by simp [Hid]⟩
      case round =>
        obtain ⟨j, hj, rfl, ⟨nd2, rfl⟩, HJ⟩ := hrel
        by_cases hlt2 : j < row.length
        · obtain ⟨s, hsj⟩ : ∃ s, row[j]? = some s := ⟨_, List.getElem?_eq_getElem hlt2⟩
          have hsg : s < g.length := HV.out.2 row (List.mem_of_getElem? HROW.out) s (List.mem_of_getElem? hsj)
          obtain ⟨b2, o2, rfl, hb2, cs⟩ := HXR.out j s hsj
          simp only [encNat] at cs
          have hlt3 : (j : Int) < row.length := by omega
          have HSJ := Lib.hid hsj
          have ls := mapLook HM.out (x := (s : Int)) (by omega)
          have lu := mapLook HM.out (x := (u : Int)) (by omega)
          have hsucc : succ g u = row := by unfold succ; rw [List.getD_eq_getElem?_getD, HROW.out]; rfl
          have hedge := HE.out u (List.mem_of_getElem? HUK.out) s (by rw [hsucc]; exact List.mem_of_getElem? hsj)
          clear hsj hsucc
          rcases hedge with ⟨hle, hok⟩ | ⟨hle, kk, r, hU, hok⟩
          · have htest : decide (f s ≤ f u) = false := by simpa using hle
            have HO := Lib.hid hok
            clear hle hok
            go_wp2
            go_quiet (fail)
            go_wp2
            go_roundw
            case rel => exact ⟨j + 1, by omega, by go_num, ⟨_, rfl⟩, by
              unfold Hid; intro s' hs'
              rw [List.take_add_one, HSJ.out] at hs'
              rcases List.mem_append.1 hs' with h | h
              · exact HJ.out s' h
              · simp at h; subst h; exact HO.out⟩
            case measure => simp [intOf]; omega
          · have htest : decide (f s ≤ f u) = true := by simpa using hle
            have HO := Lib.hid hok
            have HU := Lib.hid hU
            have hsl : SliceOf encInt w3 w3.heap.size (.slice (some ⟨b, 0, none⟩) idom.length g.length) idom := ⟨_, _, rfl, by rw [HL.out]; exact Nat.le_refl _, fun k x hk => ⟨b, 0, rfl, lt_of_block HI.out, by rw [Nat.zero_add]; exact cell_of_blk HI.out (by simp [hk, encInt])⟩⟩
            rw [HL.out] at hsl
            have hdc : ∀ n1 n2, Calls Try.prog 43 #[.pointer (some ⟨bv, 0, none⟩), .slice (some ⟨b, 0, none⟩) g.length g.length, .int .i64 (s : Int), .int .i64 (u : Int)] (w3.drewN (n1 + n2)) fun e w' => e = .returned (.bool (decide (r = s))) ∧ ∃ n, w' = w3.drewN (n1 + n) := fun n1 n2 => by
              have := dominates_any (w3.drewN (n1 + n2)) bv bm nm b g.length (some ⟨b, 0, none⟩) f idom (by rw [HL.out]; exact hn) w3.heap.size e1 (HM.out.same rfl) (by rw [HL.out]; exact hsl) kk s u r (by rw [HL.out]; exact hu) (by rw [HL.out]; exact hsg) HU.out
              rw [HL.out] at this
              exact this.mono fun e w' ⟨h1, n, h2⟩ => ⟨h1, n2 + n, by rw [h2, World.drewN_drewN, Nat.add_assoc]⟩
            have hdc := Lib.hid hdc
            clear hle hok hU hsl
            cases hrs : decide (r = s) with
            | true =>
              rw [hrs] at hdc
              have HO2 := Lib.hid (HO.out.trans hrs)
              clear HO hrs
              go_wp2
              go_quiet ((go_at_call 43; exact hdc.out _ _))
              go_wp2
              go_roundw
              case rel => exact ⟨j + 1, by omega, by go_num, ⟨_, rfl⟩, by
                unfold Hid; intro s' hs'
                rw [List.take_add_one, HSJ.out] at hs'
                rcases List.mem_append.1 hs' with h | h
                · exact HJ.out s' h
                · simp at h; subst h; exact HO2.out⟩
              case measure => simp [intOf]; omega
            | false =>
              rw [hrs] at hdc
              have HO2 := Lib.hid (HO.out.trans hrs)
              clear HO hrs
              go_wp2
              go_quiet ((go_at_call 43; exact hdc.out _ _))
              go_wp2
              go_ret
              refine ⟨ret_bool ?_, (hbw3.out.trans (below_drewN0 _ _ nd2)).trans (below_drewN0 _ _ nq)⟩
              symm
              rw [← Bool.not_eq_true, List.all_eq_true]
              intro hall
              have := hall u (List.mem_of_getElem? HUK.out)
              rw [List.all_eq_true] at this
              have h2 := this s (by unfold succ; rw [List.getD_eq_getElem?_getD, HROW.out]; exact List.mem_of_getElem? HSJ.out)
              rw [HO2.out] at h2
              cases h2
        · obtain rfl : j = row.length := by omega
          go_wp2
          go_roundw
          case rel => exact ⟨k + 1, by omega, by go_num, ⟨_, rfl⟩, by
            unfold Hid; intro u' hu'
            rw [List.take_add_one, HUK.out] at hu'
            rcases List.mem_append.1 hu' with h | h
            · exact HK.out u' h
            · simp at h; subst h
              intro s hs
              unfold succ at hs; rw [List.getD_eq_getElem?_getD, HROW.out] at hs
              exact HJ.out s (by rw [List.take_length]; exact hs)⟩
          case measure => simp [intOf]; omega
    · obtain rfl : k = ns.length + 1 := by omega
      go_wp2
      go_ret
      refine ⟨ret_bool ?_, hbw3.out.trans (below_drewN0 _ _ _)⟩
      symm
      rw [List.all_eq_true]
      intro u hu
      rw [List.all_eq_true]
      intro s hs
      exact HK.out u (by rw [List.take_of_length_le (by simp)]; exact hu) s hs
end Go.Proofs.Ytpfinkcnklkclaa
