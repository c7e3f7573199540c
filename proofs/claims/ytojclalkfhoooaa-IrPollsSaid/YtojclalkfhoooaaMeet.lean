/-
  The walks of the closure 'meet' and of view.dominates: both only read.
-/
import Derived.Test.YtojclalkfhoooaaView
set_option linter.unusedVariables false
set_option linter.unusedSimpArgs false
set_option maxRecDepth 8000
namespace Go.Proofs.Ytojclalkfhoooaa
open Go.RowKit


theorem UpN.lt {idom : List Int} {f : Int → Int} {t : Int} : ∀ {k a a' : Nat}, UpN idom f t k a a' → a < idom.length → a' < idom.length
  | 0, _, _, h, ha => by rw [h.2]; exact ha
  | k + 1, _, _, h, _ => by obtain ⟨_, a1, h1, _, h2⟩ := h; exact UpN.lt h2 h1

theorem mapLook {w : World} {b n : Nat} {f : Int → Int} (h : MapII w b n f) {x : Int} (hx : -9223372036854775808 ≤ x ∧ x ≤ 9223372036854775807) (k : Nat) :
    (Instr.lookup 126 (.map (some b)) (.int .i64 x) false).run Try.prog (w.drewN k) = .ok (.int .i64 (f x)) (w.drewN k) :=
  (MapII.look (h.same (w' := w.drewN k) rfl) hx).1

set_option maxHeartbeats 3200000 in
theorem meet_any (w : World) (Bv Bi bv bm nm bi : Nat) (f : Int → Int) (idom : List Int) (hn : idom.length ≤ 2000000)
    (c1 : w.cell? ⟨Bv, 0, none⟩ = some (.pointer (some ⟨bv, 0, none⟩))) (c2 : w.cell? ⟨bv, 1, none⟩ = some (.map (some bm))) (hm : MapII w bm nm f)
    (c3 : w.cell? ⟨Bi, 0, none⟩ = some (.slice (some ⟨bi, 0, none⟩) idom.length idom.length)) (hi : w.heap[bi]? = some (.cells (idom.map (Value.int .i64)).toArray 3 (0, 0)))
    (k0 a b r : Nat) (ha : a < idom.length) (hb : b < idom.length) (hM : MeetN idom f k0 a b r) :
    Calls Try.prog 121 #[.int .i64 (a : Int), .int .i64 (b : Int), .pointer (some ⟨Bv, 0, none⟩), .pointer (some ⟨Bi, 0, none⟩)] w fun e w' => e = .returned (.int .i64 (r : Int)) ∧ ∃ n, w' = w.drewN n := by
  have HM := Lib.hid hM
  have HI := Lib.hid hi
  have HMAP := Lib.hid hm
  clear hM hi hm
  go_enter Try.func121, Try.ntmps121
  go_wp2
  go_loopg [0, 1] k0 (fun k x y wr => ∃ a b : Nat, a < idom.length ∧ b < idom.length ∧ x = .int .i64 (a : Int) ∧ y = .int .i64 (b : Int) ∧ Hid (MeetN idom f k a b r) ∧ ∃ n, wr = w.drewN n)
  case atStart => exact ⟨a, b, ha, hb, rfl, rfl, HM, 0, rfl⟩
  case round =>
    clear ha hb HM a b
    obtain ⟨a, b, ha, hb, rfl, rfl, HM, n, rfl⟩ := hrel
    cases gk with
    | zero =>
      obtain ⟨rfl, rfl⟩ := HM.out
      have hne : ((r : Int) != (r : Int)) = false := by simp
      go_wp2
      go_ret
      exact ⟨rfl, n, rfl⟩
    | succ k =>
      obtain ⟨hab, j, a', hu, j', b', hu', hM⟩ := HM.out
      have hne : ((a : Int) != (b : Int)) = true := by simp; omega
      have HU := Lib.hid hu
      have HU' := Lib.hid hu'
      have HM2 := Lib.hid hM
      have la' := UpN.lt hu ha
      have lb' := UpN.lt hu' hb
      clear hab hu hu' hM HM
      go_wp2
      go_loopg [0] j (fun j x wr => ∃ a : Nat, a < idom.length ∧ x = .int .i64 (a : Int) ∧ Hid (UpN idom f (f b) j a a') ∧ ∃ n, wr = w.drewN n)
      case atStart => exact ⟨a, ha, rfl, HU, n, rfl⟩
      case round =>
        clear HU
        obtain ⟨x, hxl, rfl, HU, n2, rfl⟩ := hrel
        have la := mapLook HMAP.out (x := (x : Int)) (by omega)
        have lb := mapLook HMAP.out (x := (b : Int)) (by omega)
        cases gk with
        | zero =>
          obtain ⟨ht, rfl⟩ := HU.out
          have htest : decide (f b < f a') = false := by simpa using ht
          go_wp2
          go_quiet (fail)
          go_wp2
          go_loopg [1] j' (fun j y wr => ∃ y0 : Nat, y0 < idom.length ∧ y = .int .i64 (y0 : Int) ∧ Hid (UpN idom f (f a') j y0 b') ∧ ∃ n, wr = w.drewN n)
          case atStart => exact ⟨b, hb, rfl, HU', _, World.drewN_drewN _ _ _⟩
          case round =>
            clear HU' htest
            obtain ⟨y, hyl, rfl, HU', n3, rfl⟩ := hrel
            have lc := mapLook HMAP.out (x := (y : Int)) (by omega)
            cases gk with
            | zero =>
              obtain ⟨ht, rfl⟩ := HU'.out
              have htest : decide (f a' < f b') = false := by simpa using ht
              go_wp2
              go_quiet (fail)
              go_wp2
              go_roundg k
              case measure => omega
              case rel => exact ⟨a', b', la', lb', rfl, rfl, HM2, _, World.drewN_drewN _ _ _⟩
            | succ j2 =>
              obtain ⟨ht, y1, h1, hy, hu⟩ := HU'.out
              have htest : decide (f a' < f y) = true := by simpa using ht
              have cy : w.cell? ⟨bi, y, none⟩ = some (.int .i64 (y1 : Int)) := cell_of_blk HI.out (by simp [hy])
              have hyl1 : (y : Int) < idom.length := by omega
              have HU2 := Lib.hid hu
              clear hy hu HU'
              go_wp2
              go_quiet (fail)
              go_wp2
              go_roundg j2
              case measure => omega
              case rel => exact ⟨y1, h1, rfl, HU2, _, rfl⟩
        | succ j2 =>
          obtain ⟨ht, a1, h1, hx, hu⟩ := HU.out
          have htest : decide (f b < f x) = true := by simpa using ht
          have cx : w.cell? ⟨bi, x, none⟩ = some (.int .i64 (a1 : Int)) := cell_of_blk HI.out (by simp [hx])
          have hxl1 : (x : Int) < idom.length := by omega
          have HU2 := Lib.hid hu
          clear hx hu HU
          go_wp2
          go_quiet (fail)
          go_wp2
          go_roundg j2
          case measure => omega
          case rel => exact ⟨a1, h1, rfl, HU2, _, rfl⟩
end Go.Proofs.Ytojclalkfhoooaa
