/-
  Polls: what the evaluation of so many polls is. Plain facts: no program in sight.
-/
import Derived.Test.YtojclalkfhoooaaISem
set_option linter.unusedVariables false
set_option linter.unusedSimpArgs false
namespace Go.Proofs.Ytojclalkfhoooaa

def pollOp : IOp := ⟨27, -1, 0, 0, 0, []⟩
def hndB : List IBlk := [⟨[], [⟨24, 0, 0, 0, 1, []⟩, ⟨25, -1, 0, 0, 2, []⟩], ⟨4, 0, []⟩⟩]
def pollP (k : Nat) (h : Bool) : IProg := ⟨[[⟨[], List.replicate k pollOp, ⟨4, -1, []⟩⟩], hndB], [0, 0], 0, if h then 1 else -1, [], []⟩
def pollE (k : Nat) (h : Bool) (irq : List Nat) : IEnv := ⟨pollP k h, [11, 12, 13, 14, 15], irq⟩
def hits (irq : List Nat) (h : Bool) (i : Nat) : Nat := if h then ((irq.take i).filter (fun x => decide (x ≠ 0))).length else 0
def evs (c : Nat) : List (Nat × Nat) := (List.range c).map fun j => (2, if j < 5 then 11 + j else 0)
theorem evs_succ (c : Nat) : evs (c + 1) = evs c ++ [(2, if c < 5 then 11 + c else 0)] := by unfold evs; rw [List.range_succ, List.map_append]; rfl
theorem hits_succ {irq : List Nat} {i x : Nat} (hx : irq[i]? = some x) : hits irq true (i + 1) = hits irq true i + if x ≠ 0 then 1 else 0 := by
  unfold hits
  rw [if_pos rfl, if_pos rfl, List.take_add_one, hx, List.filter_append, List.length_append]
  congr 1
  by_cases h : x = 0 <;> simp [h]
theorem hits_past {irq : List Nat} {h : Bool} {i : Nat} (hi : irq.length ≤ i) : hits irq h (i + 1) = hits irq h i := by
  unfold hits
  rw [List.take_of_length_le (by omega), List.take_of_length_le hi]
/-- The handler: it takes an input and gives it out. -/
theorem hnd_run (k : Nat) (h : Bool) (irq : List Nat) (r : Nat) (ram : List Nat) (f : Int) (c p : Nat) (hf : 3 ≤ f) :
    ∃ x, callR (pollE k h irq) (r + 1) 1 [] ⟨ram, f, evs c, min c 5, p⟩ = .ok x ⟨ram, f - 3, evs (c + 1), min (c + 1) 5, p⟩ := by
  have h0 : callR (pollE k h irq) (r + 1) 1 [] ⟨ram, f, evs c, min c 5, p⟩ = blockR (pollE k h irq) (callR (pollE k h irq) r) hndB (f.toNat + 1) 0 [] (fun _ => 0) ⟨ram, f, evs c, min c 5, p⟩ := by
    rw [callR]; rfl
  have h1 : stepR (pollE k h irq) (callR (pollE k h irq) r) ⟨24, 0, 0, 0, 1, []⟩ (fun _ => 0) (Mach.pay ⟨ram, f, evs c, min c 5, p⟩) = .ok (if c < 5 then 11 + c else 0) ⟨ram, f - 1, evs c, min (c + 1) 5, p⟩ := by
    show (if min c 5 < 5 then Res.ok ([11, 12, 13, 14, 15].getD (min c 5) 0) ⟨ram, f - 1, evs c, min c 5 + 1, p⟩ else Res.ok 0 ⟨ram, f - 1, evs c, min c 5, p⟩) = _
    by_cases hc : c < 5
    · rw [if_pos (by omega), if_pos hc, Nat.min_eq_left (by omega), Nat.min_eq_left (by omega)]
      congr 1
      have : c = 0 ∨ c = 1 ∨ c = 2 ∨ c = 3 ∨ c = 4 := by omega
      rcases this with rfl | rfl | rfl | rfl | rfl <;> rfl
    · rw [if_neg (by omega), if_neg hc, Nat.min_eq_right (by omega), Nat.min_eq_right (by omega)]
  obtain ⟨z, hz⟩ : ∃ z, (if c < 5 then 11 + c else 0) = z := ⟨_, rfl⟩
  rw [hz] at h1
  have h2 : stepR (pollE k h irq) (callR (pollE k h irq) r) ⟨25, -1, 0, 0, 2, []⟩ (setV (fun _ => 0) 0 z) (Mach.pay ⟨ram, f - 1, evs c, min (c + 1) 5, p⟩) = .ok 0 ⟨ram, f - 1 - 1, evs (c + 1), min (c + 1) 5, p⟩ := by
    rw [evs_succ, hz]; rfl
  refine ⟨z, h0.trans ((blockR_ret (at' := 0) ((opsR_step (by show 0 < f; omega) h1).trans (opsR_step (os := []) (by show 0 < f - 1; omega) h2)) (by show 0 < f - 1 - 1; omega) rfl).trans ?_)⟩
  show Res.ok z ⟨ram, f - 1 - 1 - 1, evs (c + 1), min (c + 1) 5, p⟩ = _
  congr 2
  omega
theorem polls_run (k : Nat) (h : Bool) (irq : List Nat) (ram : List Nat) : ∀ (n i : Nat) (f : Int), (4 * n : Int) ≤ f →
    ∃ f' : Int, f - 4 * n ≤ f' ∧ opsR (pollE k h irq) (callR (pollE k h irq) 99) (List.replicate n pollOp) (fun _ => 0) ⟨ram, f, evs (hits irq h i), min (hits irq h i) 5, min i irq.length⟩ = .ok (fun _ => 0) ⟨ram, f', evs (hits irq h (i + n)), min (hits irq h (i + n)) 5, min (i + n) irq.length⟩
  | 0, i, f, hf => ⟨f, by omega, rfl⟩
  | n + 1, i, f, hf => by
    have key : ∃ f1 : Int, f - 4 ≤ f1 ∧ ∃ r, stepR (pollE k h irq) (callR (pollE k h irq) 99) pollOp (fun _ => 0) (Mach.pay ⟨ram, f, evs (hits irq h i), min (hits irq h i) 5, min i irq.length⟩) = .ok r ⟨ram, f1, evs (hits irq h (i + 1)), min (hits irq h (i + 1)) 5, min (i + 1) irq.length⟩ := by
      by_cases hi : i < irq.length
      · obtain ⟨x, hx⟩ : ∃ x, irq[i]? = some x := ⟨_, List.getElem?_eq_getElem hi⟩
        have hstep : stepR (pollE k h irq) (callR (pollE k h irq) 99) pollOp (fun _ => 0) (Mach.pay ⟨ram, f, evs (hits irq h i), min (hits irq h i) 5, min i irq.length⟩)
            = if x ≠ 0 ∧ (if h then (1 : Int) else -1) ≠ -1 then (match callR (pollE k h irq) 99 (if h then 1 else -1) [] ⟨ram, f - 1, evs (hits irq h i), min (hits irq h i) 5, i + 1⟩ with | .ok _ m' => .ok 0 m' | .trap a b m' => .trap a b m') else .ok 0 ⟨ram, f - 1, evs (hits irq h i), min (hits irq h i) 5, i + 1⟩ := by
          show pollR (pollE k h irq) (callR (pollE k h irq) 99) ⟨ram, f - 1, evs (hits irq h i), min (hits irq h i) 5, min i irq.length⟩ = _
          unfold pollR
          rw [show min i irq.length = i from Nat.min_eq_left (by omega)]
          have e : (pollE k h irq).irq.getD i 0 = x := by show irq.getD i 0 = x; rw [List.getD_eq_getElem?_getD, hx]; rfl
          simp only [e]
          exact if_pos hi
        rw [hstep, Nat.min_eq_left (show i + 1 ≤ irq.length by omega)]
        cases h with
        | false =>
          refine ⟨f - 1, by omega, 0, ?_⟩
          rw [if_neg (by simp)]; rfl
        | true =>
          rw [hits_succ hx]
          by_cases hx0 : x = 0
          · refine ⟨f - 1, by omega, 0, ?_⟩
            rw [if_neg (fun hh => hh.1 hx0), if_neg (by simpa using hx0)]; rfl
          · obtain ⟨y, hy⟩ := hnd_run k true irq 98 ram (f - 1) (hits irq true i) (i + 1) (by omega)
            refine ⟨f - 1 - 3, by omega, 0, ?_⟩
            rw [if_pos ⟨hx0, by simp⟩, if_pos hx0]
            rw [show (if true = true then (1 : Int) else -1) = 1 from rfl, hy]
      · refine ⟨f - 1, by omega, 0, ?_⟩
        rw [hits_past (by omega), show min i irq.length = irq.length from Nat.min_eq_right (by omega), show min (i + 1) irq.length = irq.length from Nat.min_eq_right (by omega)]
        show pollR (pollE k h irq) (callR (pollE k h irq) 99) ⟨ram, f - 1, evs (hits irq h i), min (hits irq h i) 5, irq.length⟩ = _
        unfold pollR
        exact if_neg (by show ¬ irq.length < irq.length; omega)
    obtain ⟨f1, hf1, r, hr⟩ := key
    obtain ⟨f', hf', hrun⟩ := polls_run k h irq ram n (i + 1) f1 (by omega)
    refine ⟨f', by omega, ?_⟩
    rw [List.replicate_succ]
    refine (opsR_step (by show 0 < f; omega) hr).trans ?_
    rw [show i + (n + 1) = i + 1 + n by omega]
    exact hrun
end Go.Proofs.Ytojclalkfhoooaa
