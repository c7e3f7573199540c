/-
  The arguments of the laws, opened: slices of numbers.
-/
import Derived.Test.YtojclalkfhoooaaLift7
import Derived.Test.YtojclalkfhoooaaGILit
set_option linter.unusedVariables false
set_option linter.unusedSimpArgs false
set_option maxRecDepth 100000
namespace Go.Proofs.Ytojclalkfhoooaa
open Go.ChangeShapes Go.WideShapes Go.ChangeAt Go.RowKit

theorem spot_none {w : World} {a : Addr} {v : Value} (h : w.cell? a = some v) : a.spot = none := by
  unfold World.cell? at h
  split at h
  · split at h
    · simp at h
    · rename_i h2; simpa using h2
  · simp at h
theorem add_plain (b o k : Nat) : (⟨b, o, none⟩ : Addr).add k = ⟨b, o + k, none⟩ := by
  unfold Addr.add; split
  · rename_i h; subst h; rfl
  · rfl
/-- A slice of whole numbers, as it lies. -/
theorem nums_at {α : Type} {P : Program} {H : Type} {enc : TypeId × Value → H} {W : World} {fuel : Nat} {u : Value} {x : DataW H × List MemPlace} {t e : TypeId} {q : IntKind} (ht : P.underlying t = some (.slice e)) (he : P.underlying e = some (.int q)) (c1 : P.cellsOf e = 1)
    (R : World → Nat → Nat → Nat → α → Prop) (dec : Int → α) (hR : ∀ b o z, (Lit.int q z).wf = true → W.cell? ⟨b, o, none⟩ = some (.int q z) → R W W.heap.size b o (dec z))
    (hf : DataW.trod enc P W 0 (fun _ => true) true fuel t [u] = some x) : ∃ row : List α, Elems 1 R W W.heap.size u row := by
  rcases open_ints ht he c1 hf with ⟨h1, _⟩ | ⟨a, len, cap, zs, h1, hb, hl, hm, hz, _, hcell, hwf⟩
  · simp at h1; subst h1
    exact ⟨[], Elems.nil⟩
  · simp at h1; subst h1
    simp only [if_true] at hz
    refine ⟨(zs.take len).map dec, some a, cap, by simp [hz, Nat.min_eq_left hl], by simp [hz]; omega, by unfold maxLen at hm; omega, fun k y hk => ?_⟩
    have hkl := (List.getElem?_eq_some_iff.1 hk).1
    simp [hz] at hkl
    rw [List.getElem?_map, List.getElem?_take, if_pos (by omega), List.getElem?_eq_getElem (by omega)] at hk
    have hkx := Option.some.inj hk
    have h4 := hcell k (by omega)
    have hs := spot_none (hcell 0 (by omega))
    have ha : a = ⟨a.block, a.off, none⟩ := by
      cases a; simp [Addr.add] at hs; simp [hs]
    rw [ha, add_plain] at h4
    rw [List.getD_eq_getElem?_getD, List.getElem?_eq_getElem (by omega), Option.getD_some] at h4
    refine ⟨a.block, a.off, by rw [← ha], cellLt h4, ?_⟩
    rw [← hkx, Nat.mul_one]
    exact hR _ _ _ (hwf _ (List.getElem_mem (by omega))) h4
section
variable {H : Type} {enc : TypeId × Value → H} {W : World} {fuel : Nat} {u : Value} {x : DataW H × List MemPlace}
theorem ints_at (hf : DataW.trod enc Try.prog W 0 (fun _ => true) true fuel 22 [u] = some x) : ∃ row : List Int, IntsIn W W.heap.size u row :=
  nums_at Try.underlying22 Try.underlying3 (by kernel_rfl) IntR id (fun b o z hz hc => ⟨hc, by unfold I64; simpa [Lit.wf, IntKind.min, IntKind.max, IntKind.signed, IntKind.bits] using hz⟩) hf
theorem bytes_at (hf : DataW.trod enc Try.prog W 0 (fun _ => true) true fuel 37 [u] = some x) : ∃ row : List Nat, U8sIn W W.heap.size u row :=
  nums_at Try.underlying37 Try.underlying5 (by kernel_rfl) U8R Int.toNat (fun b o z hz hc => by
    have h : 0 ≤ z ∧ z ≤ 255 := by simpa [Lit.wf, IntKind.min, IntKind.max, IntKind.signed, IntKind.bits] using hz
    exact ⟨by rw [hc, Int.toNat_of_nonneg h.1], by omega⟩) hf
theorem words_at (hf : DataW.trod enc Try.prog W 0 (fun _ => true) true fuel 36 [u] = some x) : ∃ row : List Nat, U16sIn W W.heap.size u row :=
  nums_at Try.underlying36 Try.underlying39 (by kernel_rfl) U16R Int.toNat (fun b o z hz hc => by
    have h : 0 ≤ z ∧ z ≤ 65535 := by simpa [Lit.wf, IntKind.min, IntKind.max, IntKind.signed, IntKind.bits] using hz
    exact ⟨by rw [hc, Int.toNat_of_nonneg h.1], by omega⟩) hf
end
section
variable {H : Type} {enc : TypeId × Value → H} {W : World} {v : Value} {d : DataW H} {p : List MemPlace} {r : Go.Reach} {base : Nat}
theorem ints_open (hv : Value.okWide Try.prog W r base 22 v) (h0 : DataW.Trod enc Try.prog W 0 (fun _ => true) true 22 v d p) : ∃ row : List Int, IntsIn W W.heap.size v row := by
  obtain ⟨a0, len0, cap0, rfl⟩ := okWide_slice Try.underlying22 hv
  obtain ⟨fuel, hf⟩ := h0
  exact ints_at hf
theorem bytes_open (hv : Value.okWide Try.prog W r base 37 v) (h0 : DataW.Trod enc Try.prog W 0 (fun _ => true) true 37 v d p) : ∃ row : List Nat, U8sIn W W.heap.size v row := by
  obtain ⟨a0, len0, cap0, rfl⟩ := okWide_slice Try.underlying37 hv
  obtain ⟨fuel, hf⟩ := h0
  exact bytes_at hf
theorem words_open (hv : Value.okWide Try.prog W r base 36 v) (h0 : DataW.Trod enc Try.prog W 0 (fun _ => true) true 36 v d p) : ∃ row : List Nat, U16sIn W W.heap.size v row := by
  obtain ⟨a0, len0, cap0, rfl⟩ := okWide_slice Try.underlying36 hv
  obtain ⟨fuel, hf⟩ := h0
  exact words_at hf
end
end Go.Proofs.Ytojclalkfhoooaa
