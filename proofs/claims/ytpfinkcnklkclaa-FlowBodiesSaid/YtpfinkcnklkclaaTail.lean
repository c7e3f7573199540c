/-
  A region that draws its order, of quiet operations ahead of a tail in one order: walked once, by the cheap step. No function of the program is named here.
-/
import Derived.Test.YtpfinkcnklkclaaMem
import Derived.StillTail
import Derived.BigQuiet
set_option linter.unusedVariables false
set_option linter.unusedSimpArgs false
namespace Go.Proofs.Ytpfinkcnklkclaa
open Go.RowKit

theorem still_of_quiet {P : Program} {ops : Array Oper} {w : World} {Q : Act → Prop} : ∀ {rest : List Oper} {a : Act}, wpQuiet P ops (fun w' => w' = w) Q rest a → wpStill P ops w Q rest a
  | [], a, h => h
  | o :: rest, a, h => by
    unfold wpQuiet at h
    unfold wpStill
    split at h
    · rename_i hw
      rw [if_pos hw]
      obtain ⟨v, h1, h2⟩ := h
      have h3 := h1 w rfl
      have h2' := still_of_quiet h2
      unfold Oper.quietAt at h3
      unfold Oper.still
      generalize (execOp a.eval o).run P w = r at *
      cases r with
      | ok n w' =>
        cases n <;> simp only [Oper.quietUpon] at h3 <;> simp only [Oper.stillUpon]
        case value u => obtain ⟨e1, rfl⟩ := h3; exact ⟨e1, h2'⟩
        case skip => obtain ⟨e1, rfl⟩ := h3; exact ⟨e1, h2'⟩
        case enter f args => exact ⟨h3.1, v, h3.2, h2'⟩
      | halt x w' => simp only [Oper.quietUpon] at h3
    · rename_i hw
      rw [if_neg hw]
      exact still_of_quiet h
/-- Quiet operations, then a tail. -/
theorem wp_region_quiet_tail {P : Program} {id : Nat} {Q : Exit → Act → World → Prop} {a : Act} {w : World} {l : List Oper} (n : Nat) (hm : P.follows .mixedOrders = true) (hB : Region.lexTailB .any l.toArray n = true)
    (h : wpQuiet P l.toArray (fun w' => w' = w.drew) (fun a' => wpList P l.toArray Q (l.drop n) a' w.drew) (l.take n) a) : (Code.region id l.toArray true).wp P Q a w :=
  wp_region_still_tail n hm hB (still_of_quiet h)
end Go.Proofs.Ytpfinkcnklkclaa
