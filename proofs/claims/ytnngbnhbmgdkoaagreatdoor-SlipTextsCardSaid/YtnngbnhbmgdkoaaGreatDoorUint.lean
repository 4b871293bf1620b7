/- The walk of strconv.FormatUint at base ten. -/
import Derived.Test.YtnngbnhbmgdkoaaGreatDoorGlob
import Derived.Test.YtnngbnhbmgdkoaaGreatDoorText
import Derived.Test.YtnngbnhbmgdkoaaGreatDoorShelf
import Derived.Test.YtnngbnhbmgdkoaaGreatDoorWLast
import Derived.WalkKit
import Derived.Lib.ItoaMem
import Derived.Lib.AppendIntMem
import Derived.Lib.Hide
namespace Go.Proofs.YtnngbnhbmgdkoaaGreatDoor.E
open Go.RowKit Go.Sort Go.Lib Go.Proofs.YtnngbnhbmgdkoaaGreatDoorW.PrintWords Go.Proofs.YtnngbnhbmgdkoaaGreatDoorW.PrintLast
set_option maxHeartbeats 4000000 in
theorem uint_inner (u : Nat) (hu64 : u < 18446744073709551616) (w : World) (htab : Lib.TabIs Tryz.prog w "internal/strconv.uint64pow10" .u64 Lib.pow10Tab) :
    Calls Tryz.prog 41 #[.int .u64 u, .int .i64 10] w fun e w' => e = .returned (.string ⟨(Lib.decDigits u).toArray⟩) ∧ ∃ k os, w' = Go.Sort.grow (w.drewN k) os := by
  by_cases hs : u < 100
  · have hs' : decide ((u : Int) < 100) = true := decide_eq_true (by omega)
    have hw : IntKind.i64.wrap (u : Int) = (u : Int) := by rw [IntKind.wrap_i64]; omega
    have hw' : wrap64 (u : Int) = (u : Int) := by unfold wrap64; omega
    go_enter Tryz.func41, Tryz.ntmps41
    go_wp2_with (go_at_call 58; refine (Tryz.internal_strconv_small u hs _).mono ?_; rintro e w' ⟨rfl, rfl⟩)
    go_ret
    exact ⟨rfl, 0, #[], by simp [World.drewN_zero]⟩
  · have hs' : decide ((u : Int) < 100) = false := decide_eq_false (by omega)
    have hu1 : 1 ≤ u := by omega
    have hnd20 : Lib.nDigits u ≤ 20 := by have := Lib.numDigits_eq u hu1 hu64; split at this <;> omega
    have hb3 : Lib.nDigits u ≤ 24 := by omega
    have hal : Tryz.prog.arrayLen 91 = 24 := by kernel_rfl
    have hsl : ∀ W, (Instr.sliceAt 91 (.pointer (some ⟨w.heap.size, 0, none⟩)) none (some (.int .i64 (Lib.nDigits u : Int))) none).run Tryz.prog W = .ok (.slice (some ⟨w.heap.size, 0, none⟩) (Lib.nDigits u) 24) W := fun W => by
      rw [run_sliceAt_array_h W 91 ⟨w.heap.size, 0, none⟩ (by kernel_rfl) .i64 (Lib.nDigits u : Int) (by omega) (by rw [hal]; omega)]
      go_simp
    have hH0 := Lib.holds_zero0 w 91 (Lib.nDigits u) (by omega)
    have hfmt := Tryz.internal_strconv_formatBase10 w.heap.size 0 24 u (Array.replicate (Lib.nDigits u) 0) (w.alloc (.cells Lib.zeros24 91)) hH0 (by rw [Array.size_replicate]; exact Lib.lt_pow_nDigits u) hu64 (by rw [Array.size_replicate]; omega)
    rw [Array.size_replicate] at hfmt
    have HH0 := Lib.hid hH0
    clear hH0 hal
    go_enter Tryz.func41, Tryz.ntmps41
    go_wp2_with (first
      | (go_at_call 59; refine (Tryz.internal_strconv_numDigits u hu1 hu64 _ (Lib.tabIs_alloc htab _)).mono ?_; rintro e w' ⟨rfl, rfl⟩))
    go_at_call 60
    refine hfmt.mono ?_
    rintro e w' ⟨rfl, k, v', dk, rfl, hF⟩
    have hcv : (convert 48 9 (.slice (some ⟨w.heap.size, 0, none⟩) (Lib.nDigits u) 24)).run Tryz.prog ((putRow (fun (b : UInt8) => Value.int .u8 (b.toNat : Int)) (w.alloc (.cells Lib.zeros24 91)) w.heap.size 0 dk).drewN k) = .ok (.string ⟨(Lib.decDigits u).toArray⟩) ((putRow (fun (b : UInt8) => Value.int .u8 (b.toNat : Int)) (w.alloc (.cells Lib.zeros24 91)) w.heap.size 0 dk).drewN k) := by
      have h := run_convert_bytes_back (P := Tryz.prog) ((putRow (fun (b : UInt8) => Value.int .u8 (b.toNat : Int)) (w.alloc (.cells Lib.zeros24 91)) w.heap.size 0 dk).drewN k) 48 9 5 ⟨w.heap.size, 0, none⟩ 24 (Lib.decDigits u) Tryz.underlying48 Tryz.underlying5 Tryz.underlying9 (fun j hj => by
        rw [Lib.row_is_numeral hF j hj, Lib.add_plain, World.cell?_drewN]
        exact cell?_putRow (fun (b : UInt8) => Value.int .u8 (b.toNat : Int)) _ w.heap.size 0 _ dk HH0.out (by rw [hF.size, Array.size_replicate]) j (by rw [hF.size]; rw [Lib.decDigits_length] at hj; exact hj))
      rw [Lib.decDigits_length] at h
      exact h
    go_wp2
    go_ret
    obtain ⟨os, eo⟩ := Lib.fin_at w (.cells Lib.zeros24 91) dk k 0
    exact ⟨rfl, k, os, eo⟩
theorem strconv_FormatUint.calls (a0 : Int) (r : ByteArray) (w : World) (hG : Glob w) (h : (if 0 ≤ a0 ∧ a0 < 18446744073709551616 then some (⟨(decText a0.toNat).toArray⟩ : ByteArray) else none) = some r) :
    Calls Tryz.prog 15 #[.int .u64 a0, .int .i64 10] w fun e w' => e = .returned (.string r) ∧ Below w.heap.size w w' := by
  split at h
  case isFalse => cases h
  rename_i hb
  obtain rfl := Option.some.inj h
  obtain ⟨u, rfl⟩ := Int.eq_ofNat_of_zero_le hb.1
  have hc : Calls Tryz.prog 41 #[.int .u64 u, .int .i64 10] w fun e w' => e = .returned (.string ⟨(decText u).toArray⟩) ∧ Below w.heap.size w w' := by
    refine (uint_inner u (by omega) w hG.pow).mono ?_
    rintro e w' ⟨rfl, k, os, rfl⟩
    rw [decText_eq u (by omega)]
    exact ⟨rfl, below_grow _ _ _⟩
  have HC := Lib.hid hc
  clear hc hb hG
  go_enter Tryz.func15, Tryz.ntmps15
  go_wp2_with (go_at_call 41; refine (HC.out).mono ?_; rintro e w' ⟨rfl, hb⟩)
  go_ret
  exact ⟨rfl, hb⟩
end Go.Proofs.YtnngbnhbmgdkoaaGreatDoor.E
