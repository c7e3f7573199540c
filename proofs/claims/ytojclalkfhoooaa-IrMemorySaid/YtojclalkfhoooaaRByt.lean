/-
  The reference's Bytes: bytes that follow from a number.
-/
import Derived.Test.YtojclalkfhoooaaIEval
import Derived.Test.YtojclalkfhoooaaOrd2
set_option linter.unusedVariables false
set_option linter.unusedSimpArgs false
namespace Go.Proofs.Ytojclalkfhoooaa
open Go.RowKit

def nextS (s : Nat) : Nat := (s * 1664525 + 1013904223) % 4294967296
def seedAt (s : Nat) : Nat → Nat
  | 0 => s
  | k + 1 => nextS (seedAt s k)
def byteAt (s k : Nat) : Nat := seedAt s (k + 1) / 16777216
def bytesL (s n : Nat) : List Nat := (List.range n).map (byteAt s)
theorem nextS_lt (s : Nat) : nextS s < 4294967296 := Nat.mod_lt _ (by decide)
theorem byteAt_lt (s k : Nat) : byteAt s k < 256 := by
  unfold byteAt
  have := nextS_lt (seedAt s k)
  show nextS (seedAt s k) / 16777216 < 256
  omega
theorem seedAt_lt {s : Nat} (h : s < 4294967296) : ∀ k, seedAt s k < 4294967296
  | 0 => h
  | k + 1 => nextS_lt _
theorem bytesL_len (s n : Nat) : (bytesL s n).length = n := by simp [bytesL]
/-- The first k bytes, then zeros. -/
def bytesTo (s n k : Nat) : List Nat := (List.range n).map fun j => if j < k then byteAt s j else 0
theorem bytesTo_zero (s n : Nat) : bytesTo s n 0 = List.replicate n 0 := by
  apply List.ext_getElem?
  intro j
  unfold bytesTo
  rw [List.getElem?_map, List.getElem?_replicate]
  by_cases h : j < n
  · rw [List.getElem?_range h, if_pos h]; rfl
  · rw [List.getElem?_eq_none (by simpa using h), if_neg h]; rfl
theorem bytesTo_full (s n : Nat) : bytesTo s n n = bytesL s n := by
  unfold bytesTo bytesL
  exact List.map_congr_left fun j hj => if_pos (List.mem_range.1 hj)
theorem bytesTo_len (s n k : Nat) : (bytesTo s n k).length = n := by simp [bytesTo]
theorem bytesTo_set (s n : Nat) {k : Nat} (h : k < n) : (bytesTo s n k).set k (byteAt s k) = bytesTo s n (k + 1) := by
  apply List.ext_getElem?
  intro j
  rw [List.getElem?_set, bytesTo_len]
  unfold bytesTo
  rw [List.getElem?_map, List.getElem?_map]
  by_cases e : k = j
  · subst e
    rw [if_pos rfl, if_pos h, List.getElem?_range h]
    show some _ = some (if k < k + 1 then byteAt s k else 0)
    rw [if_pos (by omega)]
  · rw [if_neg e]
    by_cases hj : j < n
    · rw [List.getElem?_range hj]
      show some (if j < k then byteAt s j else 0) = some (if j < k + 1 then byteAt s j else 0)
      by_cases h2 : j < k
      · rw [if_pos h2, if_pos (by omega)]
      · rw [if_neg h2, if_neg (by omega)]
    · rw [List.getElem?_eq_none (by simpa using hj)]; rfl
theorem bytes_conv {w : World} {b n : Nat} {l : List Nat} (h : w.heap[b]? = some (.cells (l.map encU8).toArray 5 (0, 0))) (hl : l.length = n) :
    (convert 37 9 (.slice (some ⟨b, 0, none⟩) n n)).run Try.prog w = .ok (.string (ramStr l)) w := by
  refine run_convert_bytes_arg w 37 5 Try.underlying37 Try.underlying5 b 0 n n (l.map fun (n : Nat) => (n : Int)) (by simpa using hl) (fun i hi => ?_) 9 Try.underlying9
  rw [Nat.zero_add]
  have hil : i < l.length := by omega
  refine cell_of_blk h ?_
  simp [List.getD_eq_getElem?_getD, List.getElem?_eq_getElem hil, encU8]
theorem wrap32 (n : Int) : IntKind.u32.wrap n = n % 4294967296 := by rw [IntKind.wrap_u32]
def RetStr (w : World) (s : ByteArray) (e : Ending) (w' : World) : Prop := e = .returned (.string s) ∧ Below w.heap.size w w'
set_option maxHeartbeats 1000000 in
set_option maxRecDepth 100000 in
theorem bytes_any (w : World) (s n : Nat) (hs : s < 4294967296) (hn : n ≤ 1000000) : Calls Try.prog 33 #[.int .u32 (s : Int), .int .i64 (n : Int)] w (RetStr w (ramStr (bytesL s n))) := by
  have hmk := run_make_row' (P := Try.prog) 37 5 (.int .u8 0) 1 Try.underlying37 Try.info_u8 rfl .i64 .i64 n (by omega) (by omega)
  have hmax : ∀ (ts : Array TypeId) (t : TypeId) (W : World), (Builtin.max_ ts t #[.int .i64 0, .int .i64 (n : Int)]).run Try.prog W = .ok (.int .i64 (n : Int)) W := fun ts t W => by
    rw [run_max_int2]
    split
    · rfl
    · have : n = 0 := by omega
      subst this; rfl
  have hnb : n ≤ 9223372036854775807 := by omega
  have HN := Lib.hid (And.intro hs hn)
  have hb0 : (w.alloc (.cells (madeCells #[.int .u8 0] n) 5)).heap[w.heap.size]? = some (.cells ((bytesTo s n 0).map encU8).toArray 5 (0, 0)) := by
    rw [new_at rfl, toArray_madeCells, bytesTo_zero, List.map_replicate]; rfl
  have hbl : Below w.heap.size w (w.alloc (.cells (madeCells #[.int .u8 0] n) 5)) := (Below.refl _ _).alloc (Nat.le_refl _) _
  have hsz : (w.alloc (.cells (madeCells #[.int .u8 0] n) 5)).heap.size = w.heap.size + 1 := by simp
  clear hs hn
  go_enter Try.func33, Try.ntmps33
  go_upto_region 2 with fail
  generalize hW0 : w.alloc (.cells (madeCells #[.int .u8 0] n) 5) = W0 at *
  generalize hbb : w.heap.size = bb at *
  have H0 := Lib.hid (And.intro hb0 hbl)
  clear hb0 hbl hW0 hmk hmax
  go_wp2
  go_loopw [0, 6] (fun sv kv wx => ∃ (k z : Nat), k ≤ n ∧ sv = .int .u32 (z : Int) ∧ kv = .int .i64 (k : Int) ∧ Hid (z = seedAt s k ∧ wx.heap[bb]? = some (.cells ((bytesTo s n k).map encU8).toArray 5 (0, 0)) ∧ Below bb w wx)) (fun _ kv _ => n - (intOf kv).toNat)
  case atStart => exact ⟨0, s, Nat.zero_le _, rfl, rfl, Lib.hid ⟨rfl, H0.out.1, H0.out.2⟩⟩
  case round =>
    obtain ⟨k, z, hk, rfl, rfl, HK⟩ := hrel
    by_cases hlt : k < n
    · have hltI : (k : Int) < n := by omega
      have HLT := Lib.hid hlt
      have hz : z < 4294967296 := by rw [HK.out.1]; exact seedAt_lt HN.out.1 k
      obtain ⟨x, hx⟩ : ∃ x, (bytesTo s n k)[k]? = some x := ⟨_, List.getElem?_eq_getElem (by rw [bytesTo_len]; exact hlt)⟩
      have cx : wr.cell? ⟨bb, k, none⟩ = some (.int .u8 (x : Int)) := cell_of_blk HK.out.2.1 (by simp [hx, encU8])
      have fx : wr.frozen? ⟨bb, k, none⟩ = false := free_of_blk HK.out.2.1
      clear hlt hx
      go_wp2
      have e1 : ((z : Int) * 1664525 % 4294967296 + 1013904223) % 4294967296 = ((nextS z : Nat) : Int) := by unfold nextS; omega
      have e2 : ((z : Int) * 1664525 + 1013904223) % 4294967296 / 16777216 = ((nextS z / 16777216 : Nat) : Int) := by unfold nextS; omega
      have hnx : nextS z = seedAt s (k + 1) := by rw [HK.out.1]; rfl
      have hby : nextS z / 16777216 = byteAt s k := by rw [hnx]; rfl
      rw [e1, e2]
      refine ⟨⟨k + 1, nextS z, HLT.out, rfl, by go_num, Lib.hid ⟨hnx, ?_, HK.out.2.2.setCell (by simp) _⟩⟩, by have := HLT.out; simp [intOf]; omega⟩
      rw [heap_setCell_self HK.out.2.1, hby, ← bytesTo_set s n HLT.out]
      simp [List.map_set, encU8]
    · obtain rfl : k = n := by omega
      have hltI : ¬ (k : Int) < k := by omega
      have hblk := HK.out.2.1
      rw [bytesTo_full] at hblk
      have hcv := bytes_conv hblk (bytesL_len s k)
      have HC := Lib.hid HK.out.2.2
      clear hlt hblk
      go_wp2
      go_ret
      exact ⟨rfl, by rw [hbb]; exact HC.out⟩
end Go.Proofs.Ytojclalkfhoooaa
