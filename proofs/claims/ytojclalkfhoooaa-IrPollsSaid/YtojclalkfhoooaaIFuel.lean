/-
  Fuel never grows. Plain facts on the evaluation.
-/
import Derived.Test.YtojclalkfhoooaaIData
set_option linter.unusedVariables false
set_option linter.unusedSimpArgs false
namespace Go.Proofs.Ytojclalkfhoooaa

def FuelLe (call : Int → List Nat → Mach → Res Nat) : Prop := ∀ f args m x m', call f args m = .ok x m' → m'.fuel ≤ m.fuel
theorem plainR_fuel {E : IEnv} {o : IOp} {a b : Nat} {m m' : Mach} {x : Nat} (h : plainR E o a b m = .ok x m') : m'.fuel ≤ m.fuel := by
  unfold plainR at h
  have key : ∀ {y : Nat} {m1 : Mach}, (Res.ok y m1 : Res Nat) = .ok x m' → m1.fuel = m.fuel → m'.fuel ≤ m.fuel := fun h e => by cases h; omega
  by_cases c1 : o.code = 1; · rw [if_pos c1] at h; exact key h rfl
  rw [if_neg c1] at h; by_cases c2 : o.code = 2; · rw [if_pos c2] at h; exact key h rfl
  rw [if_neg c2] at h; by_cases c3 : o.code = 3; · rw [if_pos c3] at h; exact key h rfl
  rw [if_neg c3] at h; by_cases c4 : o.code = 4; · rw [if_pos c4] at h; exact key h rfl
  rw [if_neg c4] at h; by_cases c18 : o.code = 18
  · rw [if_pos c18] at h; unfold loadR at h; split at h
    · split at h
      · exact key h rfl
      · cases h
    · cases h
  rw [if_neg c18] at h; by_cases c19 : o.code = 19
  · rw [if_pos c19] at h; unfold loadbR at h; split at h
    · exact key h rfl
    · cases h
  rw [if_neg c19] at h; by_cases c20 : o.code = 20
  · rw [if_pos c20] at h; unfold storeR at h; split at h
    · split at h
      · exact key h rfl
      · cases h
    · cases h
  rw [if_neg c20] at h; by_cases c21 : o.code = 21
  · rw [if_pos c21] at h; unfold storebR at h; split at h
    · exact key h rfl
    · cases h
  rw [if_neg c21] at h; by_cases c22 : o.code = 22
  · rw [if_pos c22] at h; unfold romR at h; split at h
    · split at h
      · exact key h rfl
      · cases h
    · cases h
  rw [if_neg c22] at h; by_cases c23 : o.code = 23
  · rw [if_pos c23] at h; unfold rombR at h; split at h
    · exact key h rfl
    · cases h
  rw [if_neg c23] at h; by_cases c24 : o.code = 24
  · rw [if_pos c24] at h; unfold inputR at h; split at h
    · exact key h rfl
    · exact key h rfl
  rw [if_neg c24] at h; by_cases c25 : o.code = 25
  · rw [if_pos c25] at h; exact key h rfl
  rw [if_neg c25] at h; unfold divR at h; split at h
  · cases h
  · exact key h rfl
theorem stepR_fuel {E : IEnv} {call : Int → List Nat → Mach → Res Nat} (hc : FuelLe call) {o : IOp} {v : Int → Nat} {m m' : Mach} {x : Nat} (h : stepR E call o v m = .ok x m') : m'.fuel ≤ m.fuel := by
  unfold stepR at h
  by_cases c26 : o.code = 26
  · rw [if_pos c26] at h; exact hc _ _ _ _ _ h
  · rw [if_neg c26] at h
    by_cases c27 : o.code = 27
    · rw [if_pos c27] at h
      unfold pollR at h
      split at h
      · split at h
        · split at h
          · rename_i h2; cases h; have := hc _ _ _ _ _ h2; exact this
          · cases h
        · cases h; exact Int.le_refl _
      · cases h; exact Int.le_refl _
    · rw [if_neg c27] at h; exact plainR_fuel h
theorem opsR_fuel {E : IEnv} {call : Int → List Nat → Mach → Res Nat} (hc : FuelLe call) : ∀ {ops : List IOp} {v v' : Int → Nat} {m m' : Mach}, opsR E call ops v m = .ok v' m' → m'.fuel ≤ m.fuel
  | [], v, v', m, m', h => by cases h; exact Int.le_refl _
  | o :: os, v, v', m, m', h => by
    unfold opsR at h
    split at h
    · cases h
    · split at h
      · rename_i h2
        have h3 := stepR_fuel hc h2
        have h4 := opsR_fuel hc h
        simp only [Mach.pay] at h3
        omega
      · cases h
theorem blockR_fuel {E : IEnv} {call : Int → List Nat → Mach → Res Nat} (hc : FuelLe call) {blocks : List IBlk} : ∀ {n : Nat} {a : Int} {args : List Nat} {v : Int → Nat} {m m' : Mach} {x : Nat}, blockR E call blocks n a args v m = .ok x m' → m'.fuel ≤ m.fuel
  | 0, a, args, v, m, m', x, h => by cases h
  | n + 1, a, args, v, m, m', x, h => by
    unfold blockR at h
    split at h
    · cases h
    · rename_i h2
      have h3 := opsR_fuel hc h2
      split at h
      · cases h
      · split at h
        · cases h; simp only [Mach.pay]; omega
        · split at h
          · cases h
          · have h4 := blockR_fuel hc h
            simp only [Mach.pay] at h4
            omega
theorem callR_fuel (E : IEnv) : ∀ r, FuelLe (callR E r)
  | 0 => fun f args m x m' h => by cases h
  | r + 1 => fun f args m x m' h => by
    unfold callR at h
    split at h
    · cases h
    · exact blockR_fuel (callR_fuel E r) h
end Go.Proofs.Ytojclalkfhoooaa
