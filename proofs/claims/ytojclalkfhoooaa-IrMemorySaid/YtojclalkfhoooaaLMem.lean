/-
  The law IrMemory, walked.
-/
import Derived.Test.YtojclalkfhoooaaISem
import Derived.Test.YtojclalkfhoooaaRByt
import Derived.Lib.ConvBytes
set_option linter.unusedVariables false
set_option linter.unusedSimpArgs false
namespace Go.Proofs.Ytojclalkfhoooaa
open Go.RowKit

theorem i64_r (x : Int) (h1 : -100 ≤ x) (h2 : x ≤ 100) : I64 x := ⟨by omega, by omega⟩
theorem i64_c (x : Int) (h : (decide (-100 ≤ x) && decide (x ≤ 100)) = true) : I64 x := by
  simp only [Bool.and_eq_true, decide_eq_true_eq] at h
  exact i64_r x h.1 h.2
theorem ramOf_str {l : List Nat} (hl : l.length = 8192) (h : ∀ x ∈ l, x < 256) : ramOf (ramStr l) = l := by
  apply List.ext_getElem?
  intro k
  unfold ramOf
  rw [List.getElem?_map]
  by_cases hk : k < 8192
  · rw [List.getElem?_range hk, List.getElem?_eq_getElem (by omega)]
    show some _ = some _
    congr 1
    have hx := h l[k] (List.getElem_mem _)
    unfold ramStr strOfNums
    show UInt8.toNat (Array.getD _ k 0) = _
    rw [Array.getD_eq_getD_getElem?]
    simp only [List.getElem?_toArray, List.getElem?_map]
    rw [List.getElem?_eq_getElem (by omega)]
    simp only [Option.map_some, Option.getD_some, Int.toNat_natCast]
    rw [UInt8.toNat_ofNat']
    exact Nat.mod_eq_of_lt hx
  · rw [List.getElem?_eq_none (by simpa using hk), List.getElem?_eq_none (by omega)]; rfl
theorem ramStr_get {l : List Nat} {j x : Nat} (hx : l[j]? = some x) (h : x < 256) : ((ramStr l).data.toList.getD j 0).toNat = x := by
  unfold ramStr
  rw [strOfNums_data, List.getD_eq_getElem?_getD, List.getElem?_map, List.getElem?_map, hx]
  simp only [Option.map_some, Option.getD_some, Int.toNat_natCast]
  rw [UInt8.toNat_ofNat']
  exact Nat.mod_eq_of_lt h
theorem heap_setCell_any {w : World} {b i : Nat} {cs : Array Value} {t : TypeId} {fr : Nat × Nat} (h : w.heap[b]? = some (.cells cs t fr)) (u : Value) : (w.setCell ⟨b, i, none⟩ u).heap[b]? = some (.cells (cs.setIfInBounds i u) t fr) := by
  have hlt := lt_of_block h
  have h' : w.heap[b] = .cells cs t fr := by simpa [Array.getElem?_eq_getElem hlt] using h
  show (w.heap.modify b _)[b]? = _
  rw [Array.getElem?_eq_getElem (by simpa using hlt), Array.getElem_modify_self, h']
  rfl
theorem conv_back {w : World} {b cap : Nat} {C : Array Value} {fr : Nat × Nat} {l : List Nat} (hb : w.heap[b]? = some (.cells C 5 fr)) (hl : l.length = 8192) (hc : ∀ (j x : Nat), l[j]? = some x → C[j]? = some (Value.int .u8 (x : Int))) :
    (convert 37 9 (.slice (some ⟨b, 0, none⟩) 8192 cap)).run Try.prog w = .ok (.string (ramStr l)) w := by
  refine run_convert_bytes_arg w 37 5 Try.underlying37 Try.underlying5 b 0 8192 cap (l.map fun (n : Nat) => (n : Int)) (by simpa using hl) (fun i hi => ?_) 9 Try.underlying9
  rw [Nat.zero_add]
  have hil : i < l.length := by omega
  have h1 : w.cell? ⟨b, i, none⟩ = C[i]? := by simp [World.cell?, hb]
  rw [h1, hc i l[i] (List.getElem?_eq_getElem hil)]
  simp [List.getD_eq_getElem?_getD, List.getElem?_eq_getElem hil]
theorem put_cells {C : Array Value} {l : List Nat} (hc : ∀ (j x : Nat), l[j]? = some x → C[j]? = some (Value.int .u8 (x : Int))) {k y : Nat} {z : Int} (hz : z = (y : Int)) : ∀ (j x : Nat), (l.set k y)[j]? = some x → (C.setIfInBounds k (Value.int .u8 z))[j]? = some (Value.int .u8 (x : Int)) := by
  intro j x hx
  subst hz
  rw [List.getElem?_set] at hx
  rw [Array.getElem?_setIfInBounds]
  by_cases e : k = j
  · subst e
    rw [if_pos rfl] at hx
    split at hx
    · rename_i hlt
      cases hx
      have := (Array.getElem?_eq_some_iff.1 (hc k l[k] (List.getElem?_eq_getElem hlt))).1
      rw [if_pos rfl, if_pos this]
    · cases hx
  · rw [if_neg e] at hx
    rw [if_neg e]
    exact hc j x hx
def memOps (b : Int) (a v : Nat) : List (IOp × Value) := [(⟨1, 0, 0, 0, a, []⟩, .slice none 0 0), (⟨1, 1, 0, 0, v, []⟩, .slice none 0 0), (⟨20 + b, -1, 0, 1, 0, []⟩, .slice none 0 0), (⟨18 + b, 2, 0, 0, 0, []⟩, .slice none 0 0)]
def memP (b : Int) (a v : Nat) : IProg := smallP ⟨4, 2, []⟩ ((memOps b a v).map (·.1))
theorem memOps_ok {b : Int} (hb : b = 0 ∨ b = 1) {a v : Nat} (ha : a < 65536) (hv : v < 65536) : opsNil (memOps b a v) := by
  intro q hq
  simp only [memOps, List.mem_cons, List.not_mem_nil, or_false] at hq
  rcases hq with rfl | rfl | rfl | rfl
  · exact ⟨⟨i64_c _ rfl, i64_c _ rfl, i64_c _ rfl, i64_c _ rfl, ha⟩, rfl, rfl⟩
  · exact ⟨⟨i64_c _ rfl, i64_c _ rfl, i64_c _ rfl, i64_c _ rfl, hv⟩, rfl, rfl⟩
  · exact ⟨⟨i64_r _ (by show -100 ≤ 20 + b; omega) (by show 20 + b ≤ 100; omega), i64_c _ rfl, i64_c _ rfl, i64_c _ rfl, (by show 0 < 65536; omega)⟩, rfl, rfl⟩
  · exact ⟨⟨i64_r _ (by show -100 ≤ 18 + b; omega) (by show 18 + b ≤ 100; omega), i64_c _ rfl, i64_c _ rfl, i64_c _ rfl, (by show 0 < 65536; omega)⟩, rfl, rfl⟩
theorem memP_valid {b : Int} (hb : b = 0 ∨ b = 1) (a v : Nat) : validF (memP b a v) = 0 := by rcases hb with rfl | rfl <;> rfl
/-- RAM behind the store. -/
def memL (b : Int) (a v : Nat) (l : List Nat) : List Nat := if b = 0 then (l.set (a - 16384) (v % 256)).set (a - 16384 + 1) (v / 256) else l.set (a - 16384) (v % 256)
def memRun (b : Int) (a v : Nat) (l : List Nat) : IRun :=
  if inRam a = false then ⟨0, [], 2, a, l, 0, 0⟩
  else if b = 0 ∧ inRam (inc16 a) = false then ⟨0, [], 2, inc16 a, l, 0, 0⟩
  else ⟨if b = 0 then v else v % 256, [], 6, 0, memL b a v l, 0, 0⟩
set_option maxRecDepth 100000 in
theorem mem_run {b : Int} (hb : b = 0 ∨ b = 1) {a v : Nat} (ha : a < 65536) (hv : v < 65536) {l : List Nat} (hl : l.length = 8192) (h256 : ∀ x ∈ l, x < 256) : evalF ⟨memP b a v, [], []⟩ 0 [] (ramStr l) 10 = memRun b a v l := by
  have hask : askF (memP b a v) 0 [] = true := by
    unfold askF
    rw [memP_valid hb a v]; rfl
  refine (if_pos hask).trans ?_
  obtain ⟨E, hE⟩ : ∃ E, E = (⟨memP b a v, [], []⟩ : IEnv) := ⟨_, rfl⟩
  have hfun : E.p.funcs.getD 0 [] = [⟨[], (memOps b a v).map (·.1), ⟨4, 2, []⟩⟩] := by rw [hE]; rfl
  rw [← hE]
  clear hE hask
  have hr := ramOf_str hl h256
  have h1 : stepR E (callR E 99) ⟨1, 0, 0, 0, a, []⟩ (fun _ => 0) (Mach.pay ⟨ramOf (ramStr l), 10, [], 0, 0⟩) = .ok a ⟨ramOf (ramStr l), 9, [], 0, 0⟩ := rfl
  have h2 : stepR E (callR E 99) ⟨1, 1, 0, 0, v, []⟩ (setV (fun _ => 0) 0 a) (Mach.pay ⟨ramOf (ramStr l), 9, [], 0, 0⟩) = .ok v ⟨ramOf (ramStr l), 8, [], 0, 0⟩ := rfl
  rw [hr] at h1 h2
  have h3 : stepR E (callR E 99) ⟨20 + b, -1, 0, 1, 0, []⟩ (setV (setV (fun _ => 0) 0 a) 1 v) (Mach.pay ⟨l, 8, [], 0, 0⟩) = if b = 0 then storeR ⟨l, 7, [], 0, 0⟩ a v else storebR ⟨l, 7, [], 0, 0⟩ a v := by
    rcases hb with rfl | rfl <;> rfl
  have h4 : ∀ m : Mach, stepR E (callR E 99) ⟨18 + b, 2, 0, 0, 0, []⟩ (setV (setV (setV (fun _ => 0) 0 a) 1 v) (-1) 0) m = if b = 0 then loadR m a else loadbR m a := fun m => by
    rcases hb with rfl | rfl <;> rfl
  have hops : opsR E (callR E 99) ((memOps b a v).map (·.1)) (fun _ => 0) ⟨ramOf (ramStr l), 10, [], 0, 0⟩ = opsR E (callR E 99) [⟨20 + b, -1, 0, 1, 0, []⟩, ⟨18 + b, 2, 0, 0, 0, []⟩] (setV (setV (fun _ => 0) 0 a) 1 v) ⟨l, 8, [], 0, 0⟩ := by
    rw [hr]
    exact (opsR_step (of_decide_eq_true rfl) h1).trans (opsR_step (of_decide_eq_true rfl) h2)
  unfold memRun
  by_cases hin : inRam a = false
  · rw [if_pos hin]
    refine run_trap (m2 := ⟨l, 7, [], 0, 0⟩) (k := 2) (i := a) hfun (hops.trans (opsR_trap (of_decide_eq_true rfl) (h3.trans ?_)))
    have e1 : storeR ⟨l, 7, [], 0, 0⟩ a v = .trap 2 a ⟨l, 7, [], 0, 0⟩ := by unfold storeR; rw [hin]; rfl
    have e2 : storebR ⟨l, 7, [], 0, 0⟩ a v = .trap 2 a ⟨l, 7, [], 0, 0⟩ := by unfold storebR; rw [hin]; rfl
    rw [e1, e2]
    split <;> rfl
  · rw [if_neg hin]
    have hin1 : inRam a = true := by simpa using hin
    have hrange : 16384 ≤ a ∧ a < 24576 := by unfold inRam at hin1; simpa using hin1
    obtain ⟨k, rfl⟩ : ∃ k, a = 16384 + k := ⟨a - 16384, by omega⟩
    have hk : k < 8192 := by omega
    have hsub : 16384 + k - 16384 = k := by omega
    rcases hb with rfl | rfl
    · by_cases hin2 : inRam (inc16 (16384 + k)) = false
      · rw [if_pos ⟨rfl, hin2⟩]
        refine run_trap (m2 := ⟨l, 7, [], 0, 0⟩) (k := 2) (i := inc16 (16384 + k)) hfun (hops.trans (opsR_trap (of_decide_eq_true rfl) (h3.trans ?_)))
        rw [if_pos rfl]
        unfold storeR
        rw [hin1, hin2]; rfl
      · rw [if_neg (fun h => hin2 h.2)]
        have hin3 : inRam (inc16 (16384 + k)) = true := by simpa using hin2
        have hinc : inc16 (16384 + k) = 16384 + (k + 1) := by unfold inc16; omega
        have hk1 : k + 1 < 8192 := by rw [hinc] at hin3; unfold inRam at hin3; simp at hin3; omega
        have hst : storeR ⟨l, 7, [], 0, 0⟩ (16384 + k) v = .ok 0 ⟨memL 0 (16384 + k) v l, 7, [], 0, 0⟩ := by
          unfold storeR
          rw [hin1, hin3, hinc]
          unfold Mach.put memL
          rw [if_pos rfl, if_pos rfl, if_pos rfl, hsub, show 16384 + (k + 1) - 16384 = k + 1 by omega]
        have hl1 : ((l.set k (v % 256)).set (k + 1) (v / 256))[k]? = some (v % 256) := by
          rw [List.getElem?_set_ne (by omega), List.getElem?_set_self (by omega)]
        have hl2 : ((l.set k (v % 256)).set (k + 1) (v / 256))[k + 1]? = some (v / 256) := List.getElem?_set_self (by rw [List.length_set]; omega)
        have hld : loadR ⟨memL 0 (16384 + k) v l, 6, [], 0, 0⟩ (16384 + k) = .ok v ⟨memL 0 (16384 + k) v l, 6, [], 0, 0⟩ := by
          unfold loadR ramAt
          rw [hin1, hin3, hinc]
          unfold memL
          rw [if_pos rfl, if_pos rfl, if_pos rfl, hsub, show 16384 + (k + 1) - 16384 = k + 1 by omega]
          simp only
          rw [List.getD_eq_getElem?_getD, List.getD_eq_getElem?_getD, hl1, hl2]
          show Res.ok (v % 256 + 256 * (v / 256)) _ = _
          congr 1
          omega
        refine (run_ok hfun (hops.trans ((opsR_step (of_decide_eq_true rfl) (h3.trans ((if_pos rfl).trans hst))).trans (opsR_step (os := []) (of_decide_eq_true rfl) ((h4 _).trans ((if_pos rfl).trans hld))))) (of_decide_eq_true rfl)).trans ?_
        rw [if_pos rfl]
        rfl
    · rw [if_neg (fun h => absurd h.1 (by decide))]
      have hst : storebR ⟨l, 7, [], 0, 0⟩ (16384 + k) v = .ok 0 ⟨memL 1 (16384 + k) v l, 7, [], 0, 0⟩ := by
        unfold storebR
        rw [hin1]
        unfold Mach.put memL
        rw [if_pos rfl, if_neg (by decide)]
      have hl1 : (l.set k (v % 256))[k]? = some (v % 256) := List.getElem?_set_self (by omega)
      have hld : loadbR ⟨memL 1 (16384 + k) v l, 6, [], 0, 0⟩ (16384 + k) = .ok (v % 256) ⟨memL 1 (16384 + k) v l, 6, [], 0, 0⟩ := by
        unfold loadbR ramAt
        rw [hin1]
        unfold memL
        rw [if_pos rfl, if_neg (by decide), hsub]
        simp only
        rw [List.getD_eq_getElem?_getD, hl1]; rfl
      refine (run_ok hfun (hops.trans ((opsR_step (of_decide_eq_true rfl) (h3.trans ((if_neg (by decide)).trans hst))).trans (opsR_step (os := []) (of_decide_eq_true rfl) ((h4 _).trans ((if_neg (by decide)).trans hld))))) (of_decide_eq_true rfl)).trans ?_
      rw [if_neg (by decide)]
      rfl
theorem in_any (x : Nat) (y : Int) (hy : y = (x : Int)) (w : World) : Calls Try.prog 34 #[.int .u16 y] w fun e w' => e = .returned (.bool (inRam x)) ∧ w = w' := by
  subst hy
  unfold inRam
  obtain ⟨q1, h1⟩ : ∃ q, decide (16384 ≤ x) = q := ⟨_, rfl⟩
  obtain ⟨q2, h2⟩ : ∃ q, decide (x < 24576) = q := ⟨_, rfl⟩
  have t1 : decide ((16384 : Int) ≤ (x : Int)) = q1 := bool_of h1 (by omega)
  have t2 : decide ((x : Int) ≤ 24575) = q2 := bool_of h2 (by omega)
  rw [h1, h2]
  clear h1 h2
  cases q1 <;> cases q2
  all_goals go_enter Try.func34, Try.ntmps34
  all_goals go_wp2
  all_goals go_ret
  all_goals exact ⟨rfl, rfl⟩
theorem memP_sized (b : Int) (a v : Nat) : SizedP (memP b a v) := small_sized (by show 4 ≤ 2000000; decide) (by decide)
theorem memL_len {b : Int} {a v : Nat} {l : List Nat} : (memL b a v l).length = l.length := by unfold memL; split <;> simp
set_option maxHeartbeats 8000000 in
set_option maxRecDepth 100000 in
theorem law_memory (w : World) (a v kd : Nat) (ha : a < 65536) (hv : v < 65536) (hkd : kd < 256) :
    Calls Try.prog 11 #[.int .u16 (a : Int), .int .u16 (v : Int), .int .u8 (kd : Int)] w fun e w' => e = .returned (.bool true) ∧ Below w.heap.size w w' := by
  obtain ⟨l, hl⟩ : ∃ l, bytesL v 8192 = l := ⟨_, rfl⟩
  have hll : l.length = 8192 := by rw [← hl, bytesL_len]
  have hl256 : ∀ x ∈ l, x < 256 := by
    rw [← hl]
    intro x hx
    unfold bytesL at hx
    obtain ⟨j, _, rfl⟩ := List.mem_map.1 hx
    exact byteAt_lt v j
  obtain ⟨R0, hR0⟩ : ∃ S, ramStr l = S := ⟨_, rfl⟩
  have hz0 : R0.size = 8192 := by rw [← hR0, ramStr_size, hll]
  have hby := fun W => bytes_any W v 8192 (by omega) (by decide)
  rw [hl, hR0] at hby
  have HBY := Lib.hid hby
  have HL := Lib.hid (show l.length = 8192 ∧ (∀ x ∈ l, x < 256) ∧ ramStr l = R0 ∧ R0.size = 8192 from ⟨hll, hl256, hR0, hz0⟩)
  have HAB := Lib.hid (And.intro ha hv)
  have hand1 : bits .and .u8 (kd : Int) 1 = ((kd % 2 : Nat) : Int) := by
    have h := (bits_nat .u8 8 (by decide) wraps_u8 kd 1 hkd (by decide)).1
    rw [show ((1 : Nat) : Int) = 1 from rfl] at h
    rw [h]
    congr 1
    exact Nat.and_one_is_mod kd
  have hand255 : bits .and .u16 (v : Int) 255 = ((v % 256 : Nat) : Int) := by
    have h := (bits_nat .u16 16 (by decide) wraps_u16 v 255 hv (by decide)).1
    rw [show ((255 : Nat) : Int) = 255 from rfl] at h
    rw [h]
    congr 1
    have := Nat.and_two_pow_sub_one_eq_mod v 8
    simpa using this
  obtain ⟨b, hb⟩ : ∃ b, kd % 2 = b := ⟨_, rfl⟩
  rw [hb] at hand1
  have hb01 : b = 0 ∨ b = 1 := by omega
  have hb1 : b ≤ 1 := by omega
  have HC := Lib.hid (show (b : Int) = 0 ∨ (b : Int) = 1 by omega)
  clear hl hll hl256 hR0 hz0 hby hb hkd hb01
  have hv16 := hv
  have ha16 := ha
  clear hv ha
  go_enter Try.func11, Try.ntmps11
  go_upto_region 3 with (go_at_call 17; go_must (refine (sanity_any _).mono ?_; rintro e w0 ⟨rfl, hb0⟩))
  have HB0 := Lib.hid hb0
  clear hb0
  go_upto_region 4 with (go_at_call 32; go_must (refine (small_lit (l := memOps (b : Int) a v) (new_at rfl) (memOps_ok HC.out HAB.out.1 HAB.out.2) (by show 4 ≤ 1000000; decide) ⟨⟨by decide, by decide⟩, ⟨by decide, by decide⟩⟩ rfl).mono ?_; rintro e w1 ⟨f1, g1, a1, b1, d1, e1, h1, i1, rfl, hp, hb⟩))
  have hx : (w1.alloc (.cells #[.slice f1 1 g1, .slice a1 1 b1, .int .i64 0, .int .i64 (-1), .slice d1 0 e1, .slice h1 0 i1] 29)).heap[w1.heap.size]? = some (.cells #[.slice f1 1 g1, .slice a1 1 b1, .int .i64 0, .int .i64 (-1), .slice d1 0 e1, .slice h1 0 i1] 29 (0, 0)) := new_at rfl
  have hba := (Below.refl w1.heap.size w1).alloc (Nat.le_refl _) (.cells #[.slice f1 1 g1, .slice a1 1 b1, .int .i64 0, .int .i64 (-1), .slice d1 0 e1, .slice h1 0 i1] 29)
  have hpx := (hp.below hba).mono hba.size
  have hbx := ((Below.refl w0.heap.size w0).alloc (Nat.le_refl _) _).trans ((hb.trans (hba.mono hb.size)).mono (by simp))
  have hge : w0.heap.size ≤ w1.heap.size := by have := hb.size; simp at this; omega
  have hpq := hp.below hba
  generalize hW : w1.alloc (.cells #[.slice f1 1 g1, .slice a1 1 b1, .int .i64 0, .int .i64 (-1), .slice d1 0 e1, .slice h1 0 i1] 29) = P1 at *
  generalize hc : w1.heap.size = c1 at *
  have HP1 := Lib.hid (show Below w0.heap.size w0 P1 ∧ ProgIn P1 P1.heap.size ⟨.slice f1 1 g1, .slice a1 1 b1, .slice d1 0 e1, .slice h1 0 i1⟩ (memP (b : Int) a v) ∧ P1.heap[c1]? = some (.cells #[.slice f1 1 g1, .slice a1 1 b1, .int .i64 0, .int .i64 (-1), .slice d1 0 e1, .slice h1 0 i1] 29 (0, 0)) from ⟨hbx, hpx, hx⟩)
  have HQ1 := Lib.hid (show w0.heap.size ≤ c1 ∧ ProgIn P1 c1 ⟨.slice f1 1 g1, .slice a1 1 b1, .slice d1 0 e1, .slice h1 0 i1⟩ (memP (b : Int) a v) from ⟨hge, hpq⟩)
  clear hb hp hx hba hpx hbx hW hc hge hpq
  go_upto_region 5 with (go_at_call 33; go_must (refine (HBY.out _).mono ?_; rintro e P2 ⟨rfl, hbp⟩))
  have hp2 := (HP1.out.2.1.below hbp).mono hbp.size
  have hc2 := below_blk hbp HP1.out.2.2 (lt_of_block HP1.out.2.2)
  have hw2 := HP1.out.1.trans (hbp.mono HP1.out.1.size)
  have HP2 := Lib.hid (And.intro hw2 (And.intro hp2 hc2))
  clear hbp hp2 hc2 hw2 HP1 HQ1
  have hmr := mem_run (b := (b : Int)) HC.out HAB.out.1 HAB.out.2 HL.out.1 HL.out.2.1
  rw [HL.out.2.2.1] at hmr
  have HRUN := Lib.hid hmr
  clear hmr
  obtain ⟨q1, g1⟩ : ∃ q, inRam a = q := ⟨_, rfl⟩
  have hin1 := in_any a (a : Int) rfl
  rw [g1] at hin1
  have HIN1 := Lib.hid hin1
  have G1 := Lib.hid g1
  obtain ⟨q2, g2⟩ : ∃ q, inRam (inc16 a) = q := ⟨_, rfl⟩
  have hin2 := in_any (inc16 a) (((a : Int) + 1) % 65536) (by unfold inc16; omega)
  rw [g2] at hin2
  have HIN2 := Lib.hid hin2
  have G2 := Lib.hid g2
  clear g1 g2 hin1 hin2
  have hz : R0.size = 8192 := HL.out.2.2.2
  have HR0 := Lib.hid HL.out.2.2.1
  have m1 : True := trivial
  cases q1 with
  | false =>
    have HRR := Lib.hid (HRUN.out.trans (show memRun (b : Int) a v l = ⟨0, [], 2, a, l, 0, 0⟩ from by unfold memRun; rw [if_pos G1.out]))
    have hev : ∀ (W : World), Below P2.heap.size P2 W → Calls Try.prog 23 #[.agg #[.slice f1 1 g1, .slice a1 1 b1, .int .i64 0, .int .i64 (-1), .slice d1 0 e1, .slice h1 0 i1], .int .i64 0, .slice none 0 0, .string R0, .agg #[.slice none 0 0, .slice none 0 0], .int .i64 10] W (fun e w' => ∃ oa2 oc2, e = .returned (.agg #[.int .u16 0, .slice oa2 0 oc2, .int .i64 2, .int .u16 (a : Int), .string R0, .int .i64 0, .int .i64 0]) ∧ EventsIn w' w'.heap.size (.slice oa2 0 oc2) [] ∧ Below W.heap.size W w') := fun W hb => by
      have := (eval_any ((HP2.out.2.1.below hb).mono hb.size) (memP_sized _ _ _) 0 i64_zero Elems.nil R0 (by rw [HL.out.2.2.2]; decide) Elems.nil Elems.nil 10 ⟨by decide, by decide⟩ (by decide)).mono (fun e w' h => h.open)
      rw [HRR.out] at this
      refine this.mono ?_
      rintro e w' ⟨oa, oc, he, ho, hb⟩
      refine ⟨oa, oc, ?_, ho, hb⟩
      exact he.trans (by first | (rw [← HR0.out]; rfl) | rw [← HR0.out])
    have HEV := Lib.hid hev
    clear hev
    have x0 : P2.cell? ⟨c1, 0, none⟩ = some (.slice f1 1 g1) := cell_of_blk HP2.out.2.2 (by simp)
    have x1 : P2.cell? ⟨c1, 1, none⟩ = some (.slice a1 1 b1) := cell_of_blk HP2.out.2.2 (by simp)
    have x2 : P2.cell? ⟨c1, 2, none⟩ = some (.int .i64 0) := cell_of_blk HP2.out.2.2 (by simp)
    have x3 : P2.cell? ⟨c1, 3, none⟩ = some (.int .i64 (-1)) := cell_of_blk HP2.out.2.2 (by simp)
    have x4 : P2.cell? ⟨c1, 4, none⟩ = some (.slice d1 0 e1) := cell_of_blk HP2.out.2.2 (by simp)
    have x5 : P2.cell? ⟨c1, 5, none⟩ = some (.slice h1 0 i1) := cell_of_blk HP2.out.2.2 (by simp)
    go_upto_region 6 with (go_at_call 23; go_must (refine (HEV.out _ (Below.refl _ _)).mono ?_; rintro e w1 ⟨oa2, oc2, rfl, ho, hb⟩))
    clear x0 x1 x2 x3 x4 x5
    have hx : (w1.alloc (.cells #[.int .u16 0, .slice oa2 0 oc2, .int .i64 2, .int .u16 (a : Int), .string R0, .int .i64 0, .int .i64 0] 57)).heap[w1.heap.size]? = some (.cells #[.int .u16 0, .slice oa2 0 oc2, .int .i64 2, .int .u16 (a : Int), .string R0, .int .i64 0, .int .i64 0] 57 (0, 0)) := new_at rfl
    have hba := (Below.refl w1.heap.size w1).alloc (Nat.le_refl _) (.cells #[.int .u16 0, .slice oa2 0 oc2, .int .i64 2, .int .u16 (a : Int), .string R0, .int .i64 0, .int .i64 0] 57)
    have hox := (ho.below evR_stable hba).mono evR_stable hba.size
    have hbx : Below P2.heap.size P2 _ := hb.trans (hba.mono hb.size)
    generalize hW : w1.alloc (.cells #[.int .u16 0, .slice oa2 0 oc2, .int .i64 2, .int .u16 (a : Int), .string R0, .int .i64 0, .int .i64 0] 57) = R2 at *
    generalize hc : w1.heap.size = r2 at *
    have HR2 := Lib.hid (show Below P2.heap.size P2 R2 ∧ EventsIn R2 R2.heap.size (.slice oa2 0 oc2) [] ∧ R2.heap[r2]? = some (.cells #[.int .u16 0, .slice oa2 0 oc2, .int .i64 2, .int .u16 (a : Int), .string R0, .int .i64 0, .int .i64 0] 57 (0, 0)) from ⟨hbx, hox, hx⟩)
    clear hb ho hx hba hox hbx hW hc HEV
    have hr1 := HR2.out.2.2
    have y0 : R2.cell? ⟨r2, 0, none⟩ = some (.int .u16 0) := cell_of_blk hr1 (by simp)
    have y1 : R2.cell? ⟨r2, 1, none⟩ = some (.slice oa2 0 oc2) := cell_of_blk hr1 (by simp)
    have y2 : R2.cell? ⟨r2, 2, none⟩ = some (.int .i64 2) := cell_of_blk hr1 (by simp)
    have y3 : R2.cell? ⟨r2, 3, none⟩ = some (.int .u16 (a : Int)) := cell_of_blk hr1 (by simp)
    have y4 : R2.cell? ⟨r2, 4, none⟩ = some (.string R0) := cell_of_blk hr1 (by simp)
    have y5 : R2.cell? ⟨r2, 5, none⟩ = some (.int .i64 0) := cell_of_blk hr1 (by simp)
    have y6 : R2.cell? ⟨r2, 6, none⟩ = some (.int .i64 0) := cell_of_blk hr1 (by simp)
    have hkw := Lib.hid (HB0.out.trans ((HP2.out.1.trans (HR2.out.1.mono HP2.out.1.size)).mono HB0.out.size))
    have HRB := Lib.hid hr1
    clear hr1 HR2 HP2
    go_wp2_with (first | (go_at_call 34; have gate := m1; clear m1; go_must (refine (HIN1.out _).mono ?_; rintro e w5 ⟨rfl, rfl⟩)) | (go_at_call 34; go_must (refine (HIN2.out _).mono ?_; rintro e w6 ⟨rfl, rfl⟩)) | go_in)
    go_ret
    exact ⟨rfl, hkw.out⟩
  | true =>
    have hrg : 16384 ≤ a ∧ a < 24576 := by have := G1.out; unfold inRam at this; simpa using this
    obtain ⟨k, hk⟩ : ∃ k, a - 16384 = k := ⟨_, rfl⟩
    have hkI : (a : Int) - 16384 = (k : Int) := by omega
    have hk8 : k < 8192 := by omega
    have HK := Lib.hid (And.intro hk hrg)
    have hinc : inc16 a = a + 1 := by unfold inc16; omega
    have hin3 := in_any (inc16 a) ((a : Int) + 1) (by omega)
    rw [G2.out] at hin3
    have HIN3 := Lib.hid hin3
    have HINC := Lib.hid hinc
    clear hin3 hinc HIN2
    clear hk hrg
    by_cases hb0 : b = 0
    · subst hb0
      cases q2 with
      | false =>
        have HRR := Lib.hid (HRUN.out.trans (show memRun ((0 : Nat) : Int) a v l = ⟨0, [], 2, a + 1, l, 0, 0⟩ from by unfold memRun; rw [if_neg (by rw [G1.out]; decide), if_pos ⟨rfl, G2.out⟩, HINC.out]))
        have hev : ∀ (W : World), Below P2.heap.size P2 W → Calls Try.prog 23 #[.agg #[.slice f1 1 g1, .slice a1 1 b1, .int .i64 0, .int .i64 (-1), .slice d1 0 e1, .slice h1 0 i1], .int .i64 0, .slice none 0 0, .string R0, .agg #[.slice none 0 0, .slice none 0 0], .int .i64 10] W (fun e w' => ∃ oa2 oc2, e = .returned (.agg #[.int .u16 0, .slice oa2 0 oc2, .int .i64 2, .int .u16 ((a : Int) + 1), .string R0, .int .i64 0, .int .i64 0]) ∧ EventsIn w' w'.heap.size (.slice oa2 0 oc2) [] ∧ Below W.heap.size W w') := fun W hb => by
          have := (eval_any ((HP2.out.2.1.below hb).mono hb.size) (memP_sized _ _ _) 0 i64_zero Elems.nil R0 (by rw [HL.out.2.2.2]; decide) Elems.nil Elems.nil 10 ⟨by decide, by decide⟩ (by decide)).mono (fun e w' h => h.open)
          rw [HRR.out] at this
          refine this.mono ?_
          rintro e w' ⟨oa, oc, he, ho, hb⟩
          refine ⟨oa, oc, ?_, ho, hb⟩
          exact he.trans (by first | (rw [← HR0.out]; rfl) | rw [← HR0.out])
        have HEV := Lib.hid hev
        clear hev
        have x0 : P2.cell? ⟨c1, 0, none⟩ = some (.slice f1 1 g1) := cell_of_blk HP2.out.2.2 (by simp)
        have x1 : P2.cell? ⟨c1, 1, none⟩ = some (.slice a1 1 b1) := cell_of_blk HP2.out.2.2 (by simp)
        have x2 : P2.cell? ⟨c1, 2, none⟩ = some (.int .i64 0) := cell_of_blk HP2.out.2.2 (by simp)
        have x3 : P2.cell? ⟨c1, 3, none⟩ = some (.int .i64 (-1)) := cell_of_blk HP2.out.2.2 (by simp)
        have x4 : P2.cell? ⟨c1, 4, none⟩ = some (.slice d1 0 e1) := cell_of_blk HP2.out.2.2 (by simp)
        have x5 : P2.cell? ⟨c1, 5, none⟩ = some (.slice h1 0 i1) := cell_of_blk HP2.out.2.2 (by simp)
        go_upto_region 6 with (go_at_call 23; go_must (refine (HEV.out _ (Below.refl _ _)).mono ?_; rintro e w1 ⟨oa2, oc2, rfl, ho, hb⟩))
        clear x0 x1 x2 x3 x4 x5
        have hx : (w1.alloc (.cells #[.int .u16 0, .slice oa2 0 oc2, .int .i64 2, .int .u16 ((a : Int) + 1), .string R0, .int .i64 0, .int .i64 0] 57)).heap[w1.heap.size]? = some (.cells #[.int .u16 0, .slice oa2 0 oc2, .int .i64 2, .int .u16 ((a : Int) + 1), .string R0, .int .i64 0, .int .i64 0] 57 (0, 0)) := new_at rfl
        have hba := (Below.refl w1.heap.size w1).alloc (Nat.le_refl _) (.cells #[.int .u16 0, .slice oa2 0 oc2, .int .i64 2, .int .u16 ((a : Int) + 1), .string R0, .int .i64 0, .int .i64 0] 57)
        have hox := (ho.below evR_stable hba).mono evR_stable hba.size
        have hbx : Below P2.heap.size P2 _ := hb.trans (hba.mono hb.size)
        generalize hW : w1.alloc (.cells #[.int .u16 0, .slice oa2 0 oc2, .int .i64 2, .int .u16 ((a : Int) + 1), .string R0, .int .i64 0, .int .i64 0] 57) = R2 at *
        generalize hc : w1.heap.size = r2 at *
        have HR2 := Lib.hid (show Below P2.heap.size P2 R2 ∧ EventsIn R2 R2.heap.size (.slice oa2 0 oc2) [] ∧ R2.heap[r2]? = some (.cells #[.int .u16 0, .slice oa2 0 oc2, .int .i64 2, .int .u16 ((a : Int) + 1), .string R0, .int .i64 0, .int .i64 0] 57 (0, 0)) from ⟨hbx, hox, hx⟩)
        clear hb ho hx hba hox hbx hW hc HEV
        have hr1 := HR2.out.2.2
        have y0 : R2.cell? ⟨r2, 0, none⟩ = some (.int .u16 0) := cell_of_blk hr1 (by simp)
        have y1 : R2.cell? ⟨r2, 1, none⟩ = some (.slice oa2 0 oc2) := cell_of_blk hr1 (by simp)
        have y2 : R2.cell? ⟨r2, 2, none⟩ = some (.int .i64 2) := cell_of_blk hr1 (by simp)
        have y3 : R2.cell? ⟨r2, 3, none⟩ = some (.int .u16 ((a : Int) + 1)) := cell_of_blk hr1 (by simp)
        have y4 : R2.cell? ⟨r2, 4, none⟩ = some (.string R0) := cell_of_blk hr1 (by simp)
        have y5 : R2.cell? ⟨r2, 5, none⟩ = some (.int .i64 0) := cell_of_blk hr1 (by simp)
        have y6 : R2.cell? ⟨r2, 6, none⟩ = some (.int .i64 0) := cell_of_blk hr1 (by simp)
        have hkw := Lib.hid (HB0.out.trans ((HP2.out.1.trans (HR2.out.1.mono HP2.out.1.size)).mono HB0.out.size))
        have HRB := Lib.hid hr1
        clear hr1 HR2 HP2
        go_wp2_with (first | (go_at_call 34; have gate := m1; clear m1; go_must (refine (HIN1.out _).mono ?_; rintro e w5 ⟨rfl, rfl⟩)) | (go_at_call 34; go_must (refine (HIN3.out _).mono ?_; rintro e w6 ⟨rfl, rfl⟩)) | go_in)
        go_ret
        exact ⟨rfl, hkw.out⟩
      | true =>
        have hk1 : k + 1 < 8192 := by have := G2.out; unfold inRam inc16 at this; simp at this; have := HK.out; omega
        obtain ⟨R1, hR1⟩ : ∃ S, ramStr (memL ((0 : Nat) : Int) a v l) = S := ⟨_, rfl⟩
        have HR1 := Lib.hid hR1
        have hz1 : R1.size = 8192 := by rw [← hR1, ramStr_size, memL_len, HL.out.1]
        clear hR1
        have HRR := Lib.hid (HRUN.out.trans (show memRun ((0 : Nat) : Int) a v l = ⟨v, [], 6, 0, memL ((0 : Nat) : Int) a v l, 0, 0⟩ from by unfold memRun; rw [if_neg (by rw [G1.out]; decide), if_neg (fun h => by rw [G2.out] at h; exact absurd h.2 (by decide)), if_pos (show ((0 : Nat) : Int) = 0 from rfl)]))
        have hev : ∀ (W : World), Below P2.heap.size P2 W → Calls Try.prog 23 #[.agg #[.slice f1 1 g1, .slice a1 1 b1, .int .i64 0, .int .i64 (-1), .slice d1 0 e1, .slice h1 0 i1], .int .i64 0, .slice none 0 0, .string R0, .agg #[.slice none 0 0, .slice none 0 0], .int .i64 10] W (fun e w' => ∃ oa2 oc2, e = .returned (.agg #[.int .u16 (v : Int), .slice oa2 0 oc2, .int .i64 6, .int .u16 0, .string R1, .int .i64 0, .int .i64 0]) ∧ EventsIn w' w'.heap.size (.slice oa2 0 oc2) [] ∧ Below W.heap.size W w') := fun W hb => by
          have := (eval_any ((HP2.out.2.1.below hb).mono hb.size) (memP_sized _ _ _) 0 i64_zero Elems.nil R0 (by rw [HL.out.2.2.2]; decide) Elems.nil Elems.nil 10 ⟨by decide, by decide⟩ (by decide)).mono (fun e w' h => h.open)
          rw [HRR.out] at this
          refine this.mono ?_
          rintro e w' ⟨oa, oc, he, ho, hb⟩
          refine ⟨oa, oc, ?_, ho, hb⟩
          exact he.trans (by first | (rw [← HR1.out]; rfl) | rw [← HR1.out])
        have HEV := Lib.hid hev
        clear hev
        have x0 : P2.cell? ⟨c1, 0, none⟩ = some (.slice f1 1 g1) := cell_of_blk HP2.out.2.2 (by simp)
        have x1 : P2.cell? ⟨c1, 1, none⟩ = some (.slice a1 1 b1) := cell_of_blk HP2.out.2.2 (by simp)
        have x2 : P2.cell? ⟨c1, 2, none⟩ = some (.int .i64 0) := cell_of_blk HP2.out.2.2 (by simp)
        have x3 : P2.cell? ⟨c1, 3, none⟩ = some (.int .i64 (-1)) := cell_of_blk HP2.out.2.2 (by simp)
        have x4 : P2.cell? ⟨c1, 4, none⟩ = some (.slice d1 0 e1) := cell_of_blk HP2.out.2.2 (by simp)
        have x5 : P2.cell? ⟨c1, 5, none⟩ = some (.slice h1 0 i1) := cell_of_blk HP2.out.2.2 (by simp)
        go_upto_region 6 with (go_at_call 23; go_must (refine (HEV.out _ (Below.refl _ _)).mono ?_; rintro e w1 ⟨oa2, oc2, rfl, ho, hb⟩))
        clear x0 x1 x2 x3 x4 x5
        have hx : (w1.alloc (.cells #[.int .u16 (v : Int), .slice oa2 0 oc2, .int .i64 6, .int .u16 0, .string R1, .int .i64 0, .int .i64 0] 57)).heap[w1.heap.size]? = some (.cells #[.int .u16 (v : Int), .slice oa2 0 oc2, .int .i64 6, .int .u16 0, .string R1, .int .i64 0, .int .i64 0] 57 (0, 0)) := new_at rfl
        have hba := (Below.refl w1.heap.size w1).alloc (Nat.le_refl _) (.cells #[.int .u16 (v : Int), .slice oa2 0 oc2, .int .i64 6, .int .u16 0, .string R1, .int .i64 0, .int .i64 0] 57)
        have hox := (ho.below evR_stable hba).mono evR_stable hba.size
        have hbx : Below P2.heap.size P2 _ := hb.trans (hba.mono hb.size)
        generalize hW : w1.alloc (.cells #[.int .u16 (v : Int), .slice oa2 0 oc2, .int .i64 6, .int .u16 0, .string R1, .int .i64 0, .int .i64 0] 57) = R2 at *
        generalize hc : w1.heap.size = r2 at *
        have HR2 := Lib.hid (show Below P2.heap.size P2 R2 ∧ EventsIn R2 R2.heap.size (.slice oa2 0 oc2) [] ∧ R2.heap[r2]? = some (.cells #[.int .u16 (v : Int), .slice oa2 0 oc2, .int .i64 6, .int .u16 0, .string R1, .int .i64 0, .int .i64 0] 57 (0, 0)) from ⟨hbx, hox, hx⟩)
        clear hb ho hx hba hox hbx hW hc HEV
        have hr1 := HR2.out.2.2
        have y0 : R2.cell? ⟨r2, 0, none⟩ = some (.int .u16 (v : Int)) := cell_of_blk hr1 (by simp)
        have y1 : R2.cell? ⟨r2, 1, none⟩ = some (.slice oa2 0 oc2) := cell_of_blk hr1 (by simp)
        have y2 : R2.cell? ⟨r2, 2, none⟩ = some (.int .i64 6) := cell_of_blk hr1 (by simp)
        have y3 : R2.cell? ⟨r2, 3, none⟩ = some (.int .u16 0) := cell_of_blk hr1 (by simp)
        have y4 : R2.cell? ⟨r2, 4, none⟩ = some (.string R1) := cell_of_blk hr1 (by simp)
        have y5 : R2.cell? ⟨r2, 5, none⟩ = some (.int .i64 0) := cell_of_blk hr1 (by simp)
        have y6 : R2.cell? ⟨r2, 6, none⟩ = some (.int .i64 0) := cell_of_blk hr1 (by simp)
        have hkw := Lib.hid (HB0.out.trans ((HP2.out.1.trans (HR2.out.1.mono HP2.out.1.size)).mono HB0.out.size))
        have HRB := Lib.hid hr1
        clear hr1 HR2 HP2
        have hcv := Lib.run_convert_string_bytes (P := Try.prog) R2 9 37 5 R0 Try.underlying9 Try.underlying37 Try.underlying5
        rw [hz] at hcv
        have hbw := Lib.bytesWorld_at_new R2 5 R0
        have hbo := fun j => Lib.bytesWorld_at_old R2 5 R0 j
        have hbs := Lib.bytesWorld_size R2 5 R0
        have hbc := fun j => Lib.bytesWorld_cell R2 5 R0 j
        have hbel : Below R2.heap.size R2 (Lib.bytesWorld R2 5 R0) := ⟨rfl, rfl, rfl, by omega, hbo⟩
        generalize Lib.bytesWorld R2 5 R0 = BW at *
        generalize grownCap R2 8192 0 5 = cp at *
        generalize Lib.bytesCells R2 5 R0 = CC at *
        have hCC : ∀ (j x : Nat), l[j]? = some x → CC[j]? = some (Value.int .u8 (x : Int)) := fun j x hx => by
          have hj := (List.getElem?_eq_some_iff.1 hx).1
          have h0 := hbc j (by rw [hz]; have := HL.out.1; omega)
          have h1 : BW.cell? ⟨R2.heap.size, j, none⟩ = CC[j]? := by simp [World.cell?, hbw]
          rw [← h1, h0, ← HL.out.2.2.1, ramStr_get hx (HL.out.2.1 x (List.mem_of_getElem? hx))]
        have hCs : 8192 ≤ CC.size := by
          obtain ⟨x, hx⟩ : ∃ x, l[8191]? = some x := ⟨_, List.getElem?_eq_getElem (by rw [HL.out.1]; decide)⟩
          have := (Array.getElem?_eq_some_iff.1 (hCC 8191 x hx)).1
          omega
        have hfz : ∀ j, j < 8192 → BW.frozen? ⟨R2.heap.size, j, none⟩ = false := fun j hj => by simp [World.frozen?, hbw]; omega
        obtain ⟨x0, hx0⟩ : ∃ x, l[k]? = some x := ⟨_, List.getElem?_eq_getElem (by rw [HL.out.1]; exact hk8)⟩
        have ck : BW.cell? ⟨R2.heap.size, k, none⟩ = some (.int .u8 (x0 : Int)) := (show BW.cell? ⟨R2.heap.size, k, none⟩ = CC[k]? by simp [World.cell?, hbw]).trans (hCC k x0 hx0)
        have fk := hfz k hk8
        obtain ⟨x1, hx1⟩ : ∃ x, l[k + 1]? = some x := ⟨_, List.getElem?_eq_getElem (by rw [HL.out.1]; exact hk1)⟩
        have ck1 : BW.cell? ⟨R2.heap.size, k + 1, none⟩ = some (.int .u8 (x1 : Int)) := (show BW.cell? ⟨R2.heap.size, k + 1, none⟩ = CC[k + 1]? by simp [World.cell?, hbw]).trans (hCC (k + 1) x1 hx1)
        have fk1 := hfz (k + 1) hk1
        have hrB := below_blk hbel HRB.out (lt_of_block HRB.out)
        have hneB : r2 ≠ R2.heap.size := by have := lt_of_block HRB.out; omega
        have z0 : BW.cell? ⟨r2, 0, none⟩ = some (.int .u16 (v : Int)) := cell_of_blk hrB (by simp)
        have z1 : BW.cell? ⟨r2, 1, none⟩ = some (.slice oa2 0 oc2) := cell_of_blk hrB (by simp)
        have z2 : BW.cell? ⟨r2, 2, none⟩ = some (.int .i64 6) := cell_of_blk hrB (by simp)
        have z3 : BW.cell? ⟨r2, 3, none⟩ = some (.int .u16 0) := cell_of_blk hrB (by simp)
        have z4 : BW.cell? ⟨r2, 4, none⟩ = some (.string R1) := cell_of_blk hrB (by simp)
        have z5 : BW.cell? ⟨r2, 5, none⟩ = some (.int .i64 0) := cell_of_blk hrB (by simp)
        have z6 : BW.cell? ⟨r2, 6, none⟩ = some (.int .i64 0) := cell_of_blk hrB (by simp)
        have hback := conv_back (cap := cp) (heap_setCell_any (i := k + 1) (heap_setCell_any (i := k) hbw (.int .u8 ((v : Int) % 256))) (.int .u8 ((v : Int) / 256))) (l := memL ((0 : Nat) : Int) a v l) (by rw [memL_len, HL.out.1]) (by
          unfold memL
          rw [if_pos (show ((0 : Nat) : Int) = 0 from rfl), HK.out.1]
          exact put_cells (put_cells hCC (by omega)) (by omega))
        rw [HR1.out] at hback
        have HBW := Lib.hid hbel
        clear hbw hbel hCC hCs hfz hbo hbs hbc hx0 hrB
        go_wp2_with (first | (go_at_call 34; have gate := m1; clear m1; go_must (refine (HIN1.out _).mono ?_; rintro e w5 ⟨rfl, rfl⟩)) | (go_at_call 34; go_must (refine (HIN3.out _).mono ?_; rintro e w6 ⟨rfl, rfl⟩)) | go_in)
        go_ret
        exact ⟨rfl, hkw.out.trans (((HBW.out.setCell (by simp) _).setCell (by simp) _).mono hkw.out.size)⟩
    · obtain rfl : b = 1 := by omega
      have hne1 : ¬ ((1 : Nat) : Int) = 0 := by decide
      have HNE := Lib.hid hne1
      obtain ⟨R1, hR1⟩ : ∃ S, ramStr (memL ((1 : Nat) : Int) a v l) = S := ⟨_, rfl⟩
      have HR1 := Lib.hid hR1
      have hz1 : R1.size = 8192 := by rw [← hR1, ramStr_size, memL_len, HL.out.1]
      clear hR1 hb0 hne1
      have HRR := Lib.hid (HRUN.out.trans (show memRun ((1 : Nat) : Int) a v l = ⟨v % 256, [], 6, 0, memL ((1 : Nat) : Int) a v l, 0, 0⟩ from by unfold memRun; rw [if_neg (by rw [G1.out]; decide), if_neg (fun h => HNE.out h.1), if_neg HNE.out]))
      have hev : ∀ (W : World), Below P2.heap.size P2 W → Calls Try.prog 23 #[.agg #[.slice f1 1 g1, .slice a1 1 b1, .int .i64 0, .int .i64 (-1), .slice d1 0 e1, .slice h1 0 i1], .int .i64 0, .slice none 0 0, .string R0, .agg #[.slice none 0 0, .slice none 0 0], .int .i64 10] W (fun e w' => ∃ oa2 oc2, e = .returned (.agg #[.int .u16 ((v : Int) % 256), .slice oa2 0 oc2, .int .i64 6, .int .u16 0, .string R1, .int .i64 0, .int .i64 0]) ∧ EventsIn w' w'.heap.size (.slice oa2 0 oc2) [] ∧ Below W.heap.size W w') := fun W hb => by
        have := (eval_any ((HP2.out.2.1.below hb).mono hb.size) (memP_sized _ _ _) 0 i64_zero Elems.nil R0 (by rw [HL.out.2.2.2]; decide) Elems.nil Elems.nil 10 ⟨by decide, by decide⟩ (by decide)).mono (fun e w' h => h.open)
        rw [HRR.out] at this
        refine this.mono ?_
        rintro e w' ⟨oa, oc, he, ho, hb⟩
        refine ⟨oa, oc, ?_, ho, hb⟩
        exact he.trans (by first | (rw [← HR1.out]; rfl) | rw [← HR1.out])
      have HEV := Lib.hid hev
      clear hev
      have x0 : P2.cell? ⟨c1, 0, none⟩ = some (.slice f1 1 g1) := cell_of_blk HP2.out.2.2 (by simp)
      have x1 : P2.cell? ⟨c1, 1, none⟩ = some (.slice a1 1 b1) := cell_of_blk HP2.out.2.2 (by simp)
      have x2 : P2.cell? ⟨c1, 2, none⟩ = some (.int .i64 0) := cell_of_blk HP2.out.2.2 (by simp)
      have x3 : P2.cell? ⟨c1, 3, none⟩ = some (.int .i64 (-1)) := cell_of_blk HP2.out.2.2 (by simp)
      have x4 : P2.cell? ⟨c1, 4, none⟩ = some (.slice d1 0 e1) := cell_of_blk HP2.out.2.2 (by simp)
      have x5 : P2.cell? ⟨c1, 5, none⟩ = some (.slice h1 0 i1) := cell_of_blk HP2.out.2.2 (by simp)
      go_upto_region 6 with (go_at_call 23; go_must (refine (HEV.out _ (Below.refl _ _)).mono ?_; rintro e w1 ⟨oa2, oc2, rfl, ho, hb⟩))
      clear x0 x1 x2 x3 x4 x5
      have hx : (w1.alloc (.cells #[.int .u16 ((v : Int) % 256), .slice oa2 0 oc2, .int .i64 6, .int .u16 0, .string R1, .int .i64 0, .int .i64 0] 57)).heap[w1.heap.size]? = some (.cells #[.int .u16 ((v : Int) % 256), .slice oa2 0 oc2, .int .i64 6, .int .u16 0, .string R1, .int .i64 0, .int .i64 0] 57 (0, 0)) := new_at rfl
      have hba := (Below.refl w1.heap.size w1).alloc (Nat.le_refl _) (.cells #[.int .u16 ((v : Int) % 256), .slice oa2 0 oc2, .int .i64 6, .int .u16 0, .string R1, .int .i64 0, .int .i64 0] 57)
      have hox := (ho.below evR_stable hba).mono evR_stable hba.size
      have hbx : Below P2.heap.size P2 _ := hb.trans (hba.mono hb.size)
      generalize hW : w1.alloc (.cells #[.int .u16 ((v : Int) % 256), .slice oa2 0 oc2, .int .i64 6, .int .u16 0, .string R1, .int .i64 0, .int .i64 0] 57) = R2 at *
      generalize hc : w1.heap.size = r2 at *
      have HR2 := Lib.hid (show Below P2.heap.size P2 R2 ∧ EventsIn R2 R2.heap.size (.slice oa2 0 oc2) [] ∧ R2.heap[r2]? = some (.cells #[.int .u16 ((v : Int) % 256), .slice oa2 0 oc2, .int .i64 6, .int .u16 0, .string R1, .int .i64 0, .int .i64 0] 57 (0, 0)) from ⟨hbx, hox, hx⟩)
      clear hb ho hx hba hox hbx hW hc HEV
      have hr1 := HR2.out.2.2
      have y0 : R2.cell? ⟨r2, 0, none⟩ = some (.int .u16 ((v : Int) % 256)) := cell_of_blk hr1 (by simp)
      have y1 : R2.cell? ⟨r2, 1, none⟩ = some (.slice oa2 0 oc2) := cell_of_blk hr1 (by simp)
      have y2 : R2.cell? ⟨r2, 2, none⟩ = some (.int .i64 6) := cell_of_blk hr1 (by simp)
      have y3 : R2.cell? ⟨r2, 3, none⟩ = some (.int .u16 0) := cell_of_blk hr1 (by simp)
      have y4 : R2.cell? ⟨r2, 4, none⟩ = some (.string R1) := cell_of_blk hr1 (by simp)
      have y5 : R2.cell? ⟨r2, 5, none⟩ = some (.int .i64 0) := cell_of_blk hr1 (by simp)
      have y6 : R2.cell? ⟨r2, 6, none⟩ = some (.int .i64 0) := cell_of_blk hr1 (by simp)
      have hkw := Lib.hid (HB0.out.trans ((HP2.out.1.trans (HR2.out.1.mono HP2.out.1.size)).mono HB0.out.size))
      have HRB := Lib.hid hr1
      clear hr1 HR2 HP2
      have hcv := Lib.run_convert_string_bytes (P := Try.prog) R2 9 37 5 R0 Try.underlying9 Try.underlying37 Try.underlying5
      rw [hz] at hcv
      have hbw := Lib.bytesWorld_at_new R2 5 R0
      have hbo := fun j => Lib.bytesWorld_at_old R2 5 R0 j
      have hbs := Lib.bytesWorld_size R2 5 R0
      have hbc := fun j => Lib.bytesWorld_cell R2 5 R0 j
      have hbel : Below R2.heap.size R2 (Lib.bytesWorld R2 5 R0) := ⟨rfl, rfl, rfl, by omega, hbo⟩
      generalize Lib.bytesWorld R2 5 R0 = BW at *
      generalize grownCap R2 8192 0 5 = cp at *
      generalize Lib.bytesCells R2 5 R0 = CC at *
      have hCC : ∀ (j x : Nat), l[j]? = some x → CC[j]? = some (Value.int .u8 (x : Int)) := fun j x hx => by
        have hj := (List.getElem?_eq_some_iff.1 hx).1
        have h0 := hbc j (by rw [hz]; have := HL.out.1; omega)
        have h1 : BW.cell? ⟨R2.heap.size, j, none⟩ = CC[j]? := by simp [World.cell?, hbw]
        rw [← h1, h0, ← HL.out.2.2.1, ramStr_get hx (HL.out.2.1 x (List.mem_of_getElem? hx))]
      have hCs : 8192 ≤ CC.size := by
        obtain ⟨x, hx⟩ : ∃ x, l[8191]? = some x := ⟨_, List.getElem?_eq_getElem (by rw [HL.out.1]; decide)⟩
        have := (Array.getElem?_eq_some_iff.1 (hCC 8191 x hx)).1
        omega
      have hfz : ∀ j, j < 8192 → BW.frozen? ⟨R2.heap.size, j, none⟩ = false := fun j hj => by simp [World.frozen?, hbw]; omega
      obtain ⟨x0, hx0⟩ : ∃ x, l[k]? = some x := ⟨_, List.getElem?_eq_getElem (by rw [HL.out.1]; exact hk8)⟩
      have ck : BW.cell? ⟨R2.heap.size, k, none⟩ = some (.int .u8 (x0 : Int)) := (show BW.cell? ⟨R2.heap.size, k, none⟩ = CC[k]? by simp [World.cell?, hbw]).trans (hCC k x0 hx0)
      have fk := hfz k hk8
      have t0 : True := trivial
      have hrB := below_blk hbel HRB.out (lt_of_block HRB.out)
      have hneB : r2 ≠ R2.heap.size := by have := lt_of_block HRB.out; omega
      have z0 : BW.cell? ⟨r2, 0, none⟩ = some (.int .u16 ((v : Int) % 256)) := cell_of_blk hrB (by simp)
      have z1 : BW.cell? ⟨r2, 1, none⟩ = some (.slice oa2 0 oc2) := cell_of_blk hrB (by simp)
      have z2 : BW.cell? ⟨r2, 2, none⟩ = some (.int .i64 6) := cell_of_blk hrB (by simp)
      have z3 : BW.cell? ⟨r2, 3, none⟩ = some (.int .u16 0) := cell_of_blk hrB (by simp)
      have z4 : BW.cell? ⟨r2, 4, none⟩ = some (.string R1) := cell_of_blk hrB (by simp)
      have z5 : BW.cell? ⟨r2, 5, none⟩ = some (.int .i64 0) := cell_of_blk hrB (by simp)
      have z6 : BW.cell? ⟨r2, 6, none⟩ = some (.int .i64 0) := cell_of_blk hrB (by simp)
      have hback := conv_back (cap := cp) (heap_setCell_any (i := k) hbw (.int .u8 ((v : Int) % 256))) (l := memL ((1 : Nat) : Int) a v l) (by rw [memL_len, HL.out.1]) (by
        unfold memL
        rw [if_neg HNE.out, HK.out.1]
        exact put_cells hCC (by omega))
      rw [HR1.out] at hback
      have HBW := Lib.hid hbel
      clear hbw hbel hCC hCs hfz hbo hbs hbc hx0 hrB
      go_wp2_with (first | (go_at_call 34; have gate := m1; clear m1; go_must (refine (HIN1.out _).mono ?_; rintro e w5 ⟨rfl, rfl⟩)) | (go_at_call 34; have gate := m1; clear m1; go_must (refine (HIN1.out _).mono ?_; rintro e w5 ⟨rfl, rfl⟩)) | go_in)
      go_ret
      exact ⟨rfl, hkw.out.trans ((HBW.out.setCell (by simp) _).mono hkw.out.size)⟩
end Go.Proofs.Ytojclalkfhoooaa
