/-
  A function that calls itself: what its evaluation is. Plain facts: no program in sight.
-/
import Derived.Test.YtojclalkfhoooaaISem
set_option linter.unusedVariables false
set_option linter.unusedSimpArgs false
namespace Go.Proofs.Ytojclalkfhoooaa

def depF : List IBlk := [⟨[0], [], ⟨2, 0, [⟨1, []⟩, ⟨2, []⟩]⟩⟩, ⟨[], [⟨1, 1, 0, 0, 1, []⟩, ⟨6, 2, 0, 1, 0, []⟩, ⟨26, 3, 1, 0, 0, [2]⟩, ⟨5, 4, 3, 1, 0, []⟩], ⟨4, 4, []⟩⟩, ⟨[], [], ⟨4, 0, []⟩⟩]
def depP : IProg := ⟨[[⟨[], [], ⟨5, 0, []⟩⟩], depF], [0, 1], 0, -1, [], []⟩
set_option maxRecDepth 100000 in
theorem depP_valid : validF depP = 0 := by decide +kernel
def depE : IEnv := ⟨depP, [], []⟩
def Mach.take (m : Mach) (n : Nat) : Mach := { m with fuel := m.fuel - n }
theorem take_take (m : Mach) (a b : Nat) : (m.take a).take b = m.take (a + b) := by unfold Mach.take; simp; omega
theorem pay_take (m : Mach) : m.pay = m.take 1 := rfl
theorem callR_dep (r : Nat) (args : List Nat) (m : Mach) : callR depE (r + 1) 1 args m = blockR depE (callR depE r) depF (m.fuel.toNat + 1) 0 args (fun _ => 0) m := by
  rw [callR]; rfl
theorem dep_zero (r : Nat) (m : Mach) (hf : 2 ≤ m.fuel) : callR depE (r + 1) 1 [0] m = .ok 0 (m.take 2) := by
  rw [callR_dep]
  refine (blockR_next (at' := 0) (e := ⟨2, []⟩) rfl (show 0 < m.fuel by omega) (by decide) (by decide) rfl).trans ?_
  obtain ⟨n, hn⟩ : ∃ n, m.fuel.toNat = n + 1 := ⟨m.fuel.toNat - 1, by omega⟩
  rw [hn]
  refine (blockR_ret (at' := 2) (v2 := bindV [0] [0] fun _ => 0) (m2 := m.pay) rfl (by show 0 < m.fuel - 1; omega) rfl).trans ?_
  rw [pay_take, pay_take, take_take]
  rfl
set_option maxRecDepth 100000 in
theorem dep_succ (r x : Nat) (hx : x < 65535) (m : Mach) (hf : 4 ≤ m.fuel) :
    callR depE (r + 1) 1 [x + 1] m = match callR depE r 1 [x] (m.take 4) with
      | .ok y m' => if m'.fuel ≤ 0 then .trap 7 0 m' else if m'.fuel - 1 ≤ 0 then .trap 7 0 m'.pay else .ok ((y + 1) % 65536) (m'.take 2)
      | .trap k i m' => .trap k i m' := by
  rw [callR_dep]
  have hne : ¬ ((2 : Int) = 2 ∧ x + 1 = 0) := by omega
  refine (blockR_next (at' := 0) (v2 := bindV [0] [x + 1] fun _ => 0) (m2 := m) (e := ⟨1, []⟩) rfl (show 0 < m.fuel by omega) (by decide) (by decide) ?_).trans ?_
  · show (if (2 : Int) = 2 ∧ x + 1 = 0 then _ else _) = _
    rw [if_neg hne]; rfl
  obtain ⟨n, hn⟩ : ∃ n, m.fuel.toNat = n + 1 := ⟨m.fuel.toNat - 1, by omega⟩
  rw [hn]
  have h1 : stepR depE (callR depE r) ⟨1, 1, 0, 0, 1, []⟩ (bindV [0] [x + 1] fun _ => 0) m.pay.pay = .ok 1 m.pay.pay := rfl
  have h2 : stepR depE (callR depE r) ⟨6, 2, 0, 1, 0, []⟩ (setV (bindV [0] [x + 1] fun _ => 0) 1 1) m.pay.pay.pay = .ok x m.pay.pay.pay := by
    show divR m.pay.pay.pay 6 (x + 1) 1 = _
    unfold divR
    rw [if_neg (by omega)]
    show Res.ok ((x + 1 + (65536 - 1)) % 65536) _ = _
    congr 1
    omega
  have h3 : stepR depE (callR depE r) ⟨26, 3, 1, 0, 0, [2]⟩ (setV (setV (bindV [0] [x + 1] fun _ => 0) 1 1) 2 x) m.pay.pay.pay.pay = callR depE r 1 [x] (m.take 4) := by
    show callR depE r 1 [x] m.pay.pay.pay.pay = _
    rw [pay_take, pay_take, pay_take, pay_take, take_take, take_take, take_take]
  have hfp : ∀ k : Nat, (m.take k).fuel = m.fuel - k := fun k => rfl
  have hops : opsR depE (callR depE r) [⟨1, 1, 0, 0, 1, []⟩, ⟨6, 2, 0, 1, 0, []⟩, ⟨26, 3, 1, 0, 0, [2]⟩, ⟨5, 4, 3, 1, 0, []⟩] (bindV [0] [x + 1] fun _ => 0) m.pay
      = opsR depE (callR depE r) [⟨26, 3, 1, 0, 0, [2]⟩, ⟨5, 4, 3, 1, 0, []⟩] (setV (setV (bindV [0] [x + 1] fun _ => 0) 1 1) 2 x) m.pay.pay.pay :=
    (opsR_step (by show 0 < m.fuel - 1; omega) h1).trans (opsR_step (by show 0 < m.fuel - 1 - 1; omega) h2)
  cases hc : callR depE r 1 [x] (m.take 4) with
  | trap k i m' =>
    refine blockR_trap (at' := 1) (m2 := m') (hops.trans (opsR_trap (by show 0 < m.fuel - 1 - 1 - 1; omega) (h3.trans hc)))
  | ok y m' =>
    have h4 := (opsR_step (os := [⟨5, 4, 3, 1, 0, []⟩]) (by show 0 < m.fuel - 1 - 1 - 1; omega) (h3.trans hc))
    simp only
    by_cases hf1 : m'.fuel ≤ 0
    · rw [if_pos hf1]
      exact blockR_trap (at' := 1) (hops.trans (h4.trans (opsR_out hf1)))
    · rw [if_neg hf1]
      have h5 : stepR depE (callR depE r) ⟨5, 4, 3, 1, 0, []⟩ (setV (setV (setV (bindV [0] [x + 1] fun _ => 0) 1 1) 2 x) 3 y) m'.pay = .ok ((y + 1) % 65536) m'.pay := by
        show divR m'.pay 5 y 1 = _
        unfold divR
        rw [if_neg (by omega)]
        rfl
      have h6 := hops.trans (h4.trans (opsR_step (os := []) (by omega) h5))
      by_cases hf2 : m'.fuel - 1 ≤ 0
      · rw [if_pos hf2]
        rw [blockR]
        have e : opsR depE (callR depE r) (blkAt depF (⟨1, []⟩ : IEdge).block).ops (bindV (blkAt depF (⟨1, []⟩ : IEdge).block).params (([] : List Int).map (bindV [0] [x + 1] fun _ => 0)) (bindV [0] [x + 1] fun _ => 0)) m.pay = _ := h6
        rw [e]
        show (if m'.pay.fuel ≤ 0 then Res.trap 7 0 m'.pay else _) = _
        rw [if_pos (by show m'.fuel - 1 ≤ 0; exact hf2)]
      · rw [if_neg hf2]
        refine (blockR_ret (at' := 1) h6 (by show 0 < m'.fuel - 1; omega) rfl).trans ?_
        rw [pay_take, pay_take, take_take]
        rfl
theorem dep_ok : ∀ (x r : Nat) (m : Mach), x < r → x < 60000 → (6 * x + 2 : Int) ≤ m.fuel → callR depE r 1 [x] m = .ok x (m.take (6 * x + 2))
  | 0, r + 1, m, _, _, hf => dep_zero r m (by omega)
  | x + 1, r + 1, m, hr, hx, hf => by
    rw [dep_succ r x (by omega) m (by omega), dep_ok x r (m.take 4) (by omega) (by omega) (by show _ ≤ m.fuel - 4; omega), take_take]
    simp only
    have e : (m.take (4 + (6 * x + 2))).fuel = m.fuel - (4 + (6 * x + 2) : Nat) := rfl
    rw [if_neg (by rw [e]; omega), if_neg (by rw [e]; omega), take_take]
    congr 1
    · omega
    · congr 1; omega
theorem dep_deep : ∀ (r x : Nat) (m : Mach), r ≤ x → x < 60000 → (4 * r : Int) ≤ m.fuel → callR depE r 1 [x] m = .trap 5 0 (m.take (4 * r))
  | 0, x, m, _, _, _ => by
    show Res.trap 5 0 m = _
    congr 1
    unfold Mach.take
    simp
  | r + 1, 0, m, h, _, _ => by omega
  | r + 1, x + 1, m, hr, hx, hf => by
    rw [dep_succ r x (by omega) m (by omega), dep_deep r x (m.take 4) (by omega) (by omega) (by show _ ≤ m.fuel - 4; omega), take_take]
    simp only
    congr 2
    omega
def depRun (k : Nat) : IRun := if 100 ≤ k then ⟨0, [], 5, 0, ramOf ⟨#[]⟩, 0, 0⟩ else ⟨k, [], 6, 0, ramOf ⟨#[]⟩, 0, 0⟩
set_option maxRecDepth 100000 in
theorem dep_run {k : Nat} (hk : k < 250) : evalF depE 1 [k] ⟨#[]⟩ 100000 = depRun k := by
  have hask : askF depE.p 1 [k] = true := by
    show askF depP 1 [k] = true
    unfold askF
    rw [depP_valid]; rfl
  refine (if_pos hask).trans ?_
  show runOf (callR depE 100 1 [k] ⟨ramOf ⟨#[]⟩, 100000, [], 0, 0⟩) = _
  unfold depRun
  by_cases h : 100 ≤ k
  · rw [if_pos h, dep_deep 100 k _ h (by omega) (by show (_ : Int) ≤ 100000; omega)]; rfl
  · rw [if_neg h, dep_ok k 100 _ (by omega) (by omega) (by show (_ : Int) ≤ 100000; omega)]; rfl
end Go.Proofs.Ytojclalkfhoooaa
