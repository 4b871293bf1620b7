/- The walk of label.Digits. -/
import Derived.Test.YtjlifcbddednaaaGreatDoorGlob
import Derived.Test.YtjlifcbddednaaaGreatDoorProg
import Derived.Test.YtjlifcbddednaaaGreatDoorWLast
import Derived.WalkKit
import Derived.Lib.Hide
namespace Go.Proofs.YtjlifcbddednaaaGreatDoor.E
open Go.RowKit Go.Proofs.YtjlifcbddednaaaGreatDoorW.PrintWords Go.Proofs.YtjlifcbddednaaaGreatDoorW.PrintLast

/-- The sign of a number below sixteen. -/
def hexSign (d : Nat) : Nat := if d < 10 then 48 + d else 87 + d
/-- The digit at place k. -/
def digitAt (n k : Nat) : Nat := n / 16 ^ k % 16
/-- After k rounds: the last k signs are written. -/
def digitCells (n k : Nat) : Array Value := ((List.range 16).map fun j => Value.int .u8 ((if 15 - j < k then hexSign (digitAt n (15 - j)) else 0 : Nat) : Int)).toArray
def digitsOf (n : Nat) : ByteArray := ⟨((List.range 16).map fun j => (hexSign (digitAt n (15 - j))).toUInt8).toArray⟩
def label_Digits.f (a0 : Int) : Option ByteArray := if 0 ≤ a0 ∧ a0 < 18446744073709551616 then some (digitsOf a0.toNat) else none

theorem hexSign_lt (d : Nat) (h : d < 16) : hexSign d < 256 := by unfold hexSign; split <;> omega
theorem digitAt_lt (n k : Nat) : digitAt n k < 16 := Nat.mod_lt _ (by decide)
theorem bits_digit (m k : Nat) (hm : m < 18446744073709551616) : bits .and .u64 ((m : Int) / 2 ^ (4 * k)) 15 = (digitAt m k : Int) := by
  have e : (m : Int) / 2 ^ (4 * k) = ((m / 16 ^ k : Nat) : Int) := by
    have h2 : ((2 ^ (4 * k) : Nat) : Int) = 2 ^ (4 * k) := by push_cast; rfl
    rw [← h2, Nat.pow_mul]
    rfl
  rw [e, show (15 : Int) = ((15 : Nat) : Int) from rfl, u64_and_nat _ _ (Nat.lt_of_le_of_lt (Nat.div_le_self _ _) hm) (by decide)]
  unfold digitAt
  rw [show 15 = 2 ^ 4 - 1 from rfl, Nat.and_two_pow_sub_one_eq_mod]
theorem digitCells_set (n k : Nat) (hk : k < 16) : (digitCells n k).setIfInBounds (15 - k) (.int .u8 (hexSign (digitAt n k) : Int)) = digitCells n (k + 1) := by
  apply Array.ext
  · simp [digitCells]
  · intro i h1 h2
    have hi : i < 16 := by simpa [digitCells] using h2
    rw [Array.getElem_setIfInBounds (by simpa [digitCells] using hi)]
    simp only [digitCells, List.getElem_toArray, List.getElem_map, List.getElem_range]
    by_cases e : 15 - k = i
    · subst e
      rw [if_pos rfl, if_pos (by omega), show 15 - (15 - k) = k by omega]
    · rw [if_neg e]
      by_cases h : 15 - i < k
      · rw [if_pos h, if_pos (by omega)]
      · rw [if_neg h, if_neg (by omega)]
theorem digitCells_at (n k j : Nat) (hj : j < 16) : ∃ v, (digitCells n k)[j]? = some (.int .u8 v) := by
  refine ⟨((if 15 - j < k then hexSign (digitAt n (15 - j)) else 0 : Nat) : Int), ?_⟩
  unfold digitCells
  rw [List.getElem?_toArray, List.getElem?_map, List.getElem?_range hj]
  rfl
theorem digits_index (d : Nat) (hd : d < 16) (w : World) :
    (Instr.index 9 (.string ⟨#[48, 49, 50, 51, 52, 53, 54, 55, 56, 57, 97, 98, 99, 100, 101, 102, 103, 104, 105, 106, 107, 108, 109, 110, 111, 112, 113, 114, 115, 116, 117, 118, 119, 120, 121, 122]⟩) (.int .u64 (d : Int))).run Tryz.prog w = .ok (.int .u8 (hexSign d : Int)) w := by
  have : d = 0 ∨ d = 1 ∨ d = 2 ∨ d = 3 ∨ d = 4 ∨ d = 5 ∨ d = 6 ∨ d = 7 ∨ d = 8 ∨ d = 9 ∨ d = 10 ∨ d = 11 ∨ d = 12 ∨ d = 13 ∨ d = 14 ∨ d = 15 := by omega
  rcases this with rfl | rfl | rfl | rfl | rfl | rfl | rfl | rfl | rfl | rfl | rfl | rfl | rfl | rfl | rfl | rfl <;> (show _ = _; kernel_rfl)
theorem digits_string (m : Nat) : strOfNums ((List.range 16).map fun j => (hexSign (digitAt m (15 - j)) : Int)) = digitsOf m := by
  unfold strOfNums digitsOf
  rw [List.map_map]
  rfl
theorem digitCells_done (m j : Nat) (hj : j < 16) : (digitCells m 16)[j]? = some (.int .u8 (((List.range 16).map fun j => (hexSign (digitAt m (15 - j)) : Int)).getD j 0)) := by
  unfold digitCells
  rw [List.getElem?_toArray, List.getElem?_map, List.getElem?_range hj, List.getD_eq_getElem?_getD, List.getElem?_map, List.getElem?_range hj]
  simp only [Option.map_some, Option.getD_some]
  rw [if_pos (by omega)]

set_option maxHeartbeats 2000000 in
theorem digits_calls (m : Nat) (hm : Hid (m < 18446744073709551616)) (w : World) :
    Calls Tryz.prog 22 #[.int .u64 (m : Int)] w fun e w' => e = .returned (.string (digitsOf m)) ∧ Below w.heap.size w w' := by
  have hb0 : (w.alloc (.cells (digitCells m 0) 71)).heap[w.heap.size]? = some (.cells (digitCells m 0) 71 (0, 0)) := heap_alloc_new w _
  have e0 : digitCells m 0 = #[.int .u8 0, .int .u8 0, .int .u8 0, .int .u8 0, .int .u8 0, .int .u8 0, .int .u8 0, .int .u8 0, .int .u8 0, .int .u8 0, .int .u8 0, .int .u8 0, .int .u8 0, .int .u8 0, .int .u8 0, .int .u8 0] := rfl
  rw [e0] at hb0
  have HB0 := Lib.hid hb0; clear hb0
  have HE0 := Lib.hid e0; clear e0
  go_enter Tryz.func22, Tryz.ntmps22
  go_wp2
  go_loopw [5] (fun i wr => ∃ k : Nat, k ≤ 16 ∧ i = .int .i64 k ∧ wr.heap[w.heap.size]? = some (.cells (digitCells m k) 71 (0, 0)) ∧ Below w.heap.size w wr) (fun i _ => 16 - (intOf i).toNat)
  case atStart => exact ⟨0, Nat.zero_le _, rfl, by rw [HE0.out]; exact HB0.out, below_alloc (Below.refl _ _) _⟩
  case round =>
    obtain ⟨k, hk, rfl, hb, hB⟩ := hrel
    by_cases hlt : k < 16
    · obtain ⟨d, hd⟩ : ∃ d, digitAt m k = d := ⟨_, rfl⟩
      have hdl : d < 16 := hd ▸ digitAt_lt m k
      have hand := bits_digit m k hm.out
      rw [hd] at hand
      have hix := digits_index d hdl
      obtain ⟨v0, hv0⟩ := digitCells_at m k (15 - k) (by omega)
      have hcell : wr.cell? ⟨w.heap.size, 15 - k, none⟩ = some (.int .u8 v0) := (blk_cell hb (15 - k)).trans hv0
      have hfrz : wr.frozen? ⟨w.heap.size, 15 - k, none⟩ = false := blk_frozen hb _
      have HN := Lib.hid ((blk_set hb (15 - k) (.int .u8 (hexSign d : Int))).trans (by rw [← hd, digitCells_set m k hlt])); clear hb
      have HW := Lib.hid (hB.setCell (p := ⟨w.heap.size, 15 - k, none⟩) (by simp) (.int .u8 (hexSign d : Int))); clear hB
      clear hv0 hd
      go_wp2
      go_roundw
      case rel => exact ⟨k + 1, by omega, by go_num, HN.out, HW.out⟩
      case measure => simp [intOf]; omega
    · obtain rfl : k = 16 := by omega
      have hcv := run_convert_bytes_arg (P := Tryz.prog) wr 72 5 Tryz.underlying72 Tryz.underlying5 w.heap.size 0 16 16 ((List.range 16).map fun j => (hexSign (digitAt m (15 - j)) : Int)) (by simp) (fun i hi => by rw [Nat.zero_add]; exact (blk_cell hb i).trans (digitCells_done m i hi)) 9 Tryz.underlying9
      rw [digits_string] at hcv
      have HW := Lib.hid hB; clear hB
      clear hb
      go_wp2
      go_ret
      exact ⟨rfl, HW.out⟩
theorem label_Digits.calls (a0 : Int) (r : ByteArray) (w : World) (_hG : Glob w) (h : label_Digits.f a0 = some r) :
    Calls Tryz.prog 22 #[.int .u64 a0] w fun e w' => e = .returned (.string r) ∧ Below w.heap.size w w' := by
  unfold label_Digits.f at h
  split at h
  case isFalse => cases h
  rename_i hb
  obtain ⟨m, rfl⟩ := Int.eq_ofNat_of_zero_le hb.1
  obtain rfl := Option.some.inj h
  exact digits_calls m (Lib.hid (by omega)) w
end Go.Proofs.YtjlifcbddednaaaGreatDoor.E
