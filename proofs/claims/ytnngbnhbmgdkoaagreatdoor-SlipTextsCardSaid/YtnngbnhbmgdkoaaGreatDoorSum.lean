/- The walk of coin.Sum. -/
import Derived.Test.YtnngbnhbmgdkoaaGreatDoorGlob
import Derived.Test.YtnngbnhbmgdkoaaGreatDoorSumPure
import Derived.Test.YtnngbnhbmgdkoaaGreatDoorWLast
import Derived.WalkKit
import Derived.Lib.Hide
namespace Go.Proofs.YtnngbnhbmgdkoaaGreatDoor.E
open Go.RowKit Go.Proofs.YtnngbnhbmgdkoaaGreatDoorW.PrintWords Go.Proofs.YtnngbnhbmgdkoaaGreatDoorW.PrintLast

theorem int_cells {w : World} {A : Option Addr} {l : List Int} (h : Kd.C (Kd.int .i64) w A l.length l) :
    l.length = 0 ∨ ∃ ad, A = some ad ∧ ∀ k, k < l.length → w.cell? (ad.add k) = some (.int .i64 (l.getD k 0)) := by
  rcases Nat.eq_zero_or_pos l.length with h0 | h0
  · exact .inl h0
  · obtain ⟨ad, _, e, _⟩ := Kd.C_get h 0 0 (by omega) (by omega)
    refine .inr ⟨ad, e, fun k hk => ?_⟩
    obtain ⟨ad', c, e', _, hK, hc⟩ := Kd.C_get h 0 (k : Int) (by omega) (by omega)
    obtain rfl : ad = ad' := Option.some.inj (e.symm.trans e')
    have hK' : c = [.int .i64 (l.getD k 0)] := hK
    subst hK'
    have := hc 0 _ rfl
    simpa [show (Kd.int .i64).sz = 1 from rfl] using this
theorem sum_ret {a : Int × Int} {b c : Int} (h : a = (b, c)) : Ending.returned (.tuple #[.int .i64 b, .int .i64 c]) = .returned (.tuple #[.int .i64 a.1, .int .i64 a.2]) := by
  subst h
  rfl
set_option maxHeartbeats 2000000 in
theorem coin_Sum.calls (A0 : Option Addr) (c0 : Nat) (l0 : List Int) (r1 : Int) (r2 : Int) (w : World) (_hG : Glob w) (hr0 : Kd.C (Kd.int .i64) w A0 l0.length l0) (_hc0 : l0.length ≤ c0) (h : coin_Sum.f l0 = some (r1, r2)) :
    Calls Tryz.prog 52 #[.slice A0 l0.length c0] w fun e w' => e = .returned (.tuple #[.int .i64 r1, .int .i64 r2]) ∧ Below w.heap.size w w' := by
  have hcells := int_cells hr0
  clear hr0
  unfold coin_Sum.f at h
  split at h
  case isFalse => cases h
  rename_i hb
  have hr := Option.some.inj h
  clear h
  obtain ⟨hn, hl⟩ := hb
  obtain ⟨rfl, rfl⟩ : r1 = (outOf (sumI l0)).1 ∧ r2 = (outOf (sumI l0)).2 := by rw [hr]; exact ⟨rfl, rfl⟩
  clear hr
  rcases hcells with h0 | ⟨ad, rfl, hcell⟩
  · have hnil : l0 = [] := List.eq_nil_of_length_eq_zero h0
    subst hnil
    go_enter Tryz.func52, Tryz.ntmps52
    go_wp2
    go_loop [10] (fun i => i = .int .i64 0) (fun _ => 0)
    case atStart => rfl
    case round =>
      obtain rfl := hrel
      go_wp2
      go_ret2
      exact ⟨sum_ret (by decide +kernel), below_alloc (Below.refl _ _) _⟩
  · have HL := Lib.hid hl; clear hl
    have HC := Lib.hid hcell; clear hcell
    go_enter Tryz.func52, Tryz.ntmps52
    go_wp2
    go_loopw [10] (fun i wr => ∃ k : Nat, k ≤ l0.length ∧ i = .int .i64 k ∧ wr.heap[w.heap.size]? = some (.cells #[.int .i64 (hiS (l0.take k)), .int .i64 (loS (l0.take k))] 103 (0, 0)) ∧ Below w.heap.size w wr) (fun i _ => l0.length - (intOf i).toNat)
    case atStart => exact ⟨0, Nat.zero_le _, rfl, heap_alloc_new _ _, below_alloc (Below.refl _ _) _⟩
    case round =>
      obtain ⟨k, hk, rfl, hblk, hbel⟩ := hrel
      have HB := Lib.hid hbel
      have HBK := Lib.hid hblk
      have c0 := blk_cell hblk 0
      have c1 := blk_cell hblk 1
      have f0 := blk_frozen hblk 0
      have f1 := blk_frozen hblk 1
      obtain ⟨H, hH⟩ : ∃ H, hiS (l0.take k) = H := ⟨_, rfl⟩
      obtain ⟨L, hLo⟩ : ∃ L, loS (l0.take k) = L := ⟨_, rfl⟩
      rw [hH, hLo] at c0 c1
      simp at c0 c1
      clear hblk hbel
      by_cases hlt : k < l0.length
      · obtain ⟨x, hx⟩ : ∃ x, l0.getD k 0 = x := ⟨_, rfl⟩
        have hck : wr.cell? (ad.add k) = some (.int .i64 x) := hx ▸ pw_cell_below HB.out (HC.out k hlt)
        have HX := Lib.hid hx; clear hx
        have HH := Lib.hid hH; clear hH
        have HLo := Lib.hid hLo; clear hLo
        go_wp2
        go_roundw
        case rel =>
          refine ⟨k + 1, by omega, by go_num, ?_, ?_⟩
          · have hh : wrap64 (H + x / 4294967296) = hiS (l0.take (k + 1)) := by rw [← HH.out, ← HX.out]; exact hi_next l0 HL.out hn k hlt
            have hlo : wrap64 (L + bits .and .i64 x 4294967295) = loS (l0.take (k + 1)) := by rw [← HLo.out, ← HX.out]; exact lo_next l0 hn k hlt
            rw [blk_set (blk_set HBK.out 0 _) 1 _, hh, hlo]
            rfl
          · exact (HB.out.setCell (Nat.le_refl _) _).setCell (Nat.le_refl _) _
        case measure => simp [intOf]; omega
      · obtain rfl : k = l0.length := by omega
        rw [List.take_length] at hH hLo
        have e : highOf l0 = wrap64 (H + L / 4294967296) := by unfold highOf; rw [hH, hLo]
        by_cases h1 : wrap64 (H + L / 4294967296) < -2147483648
        · have HO := Lib.hid (high_bad l0 HL.out hn (.inl (e ▸ h1)))
          have h1' : decide (wrap64 (H + L / 4294967296) < -2147483648) = true := decide_eq_true h1
          clear e hH hLo
          go_wp2
          go_ret2
          exact ⟨sum_ret HO.out, HB.out⟩
        · have h1' : decide (wrap64 (H + L / 4294967296) < -2147483648) = false := decide_eq_false h1
          by_cases h2 : wrap64 (H + L / 4294967296) > 2147483647
          · have HO := Lib.hid (high_bad l0 HL.out hn (.inr (e ▸ h2)))
            have h2' : decide (wrap64 (H + L / 4294967296) > 2147483647) = true := decide_eq_true h2
            clear e hH hLo
            go_wp2
            go_ret2
            exact ⟨sum_ret HO.out, HB.out⟩
          · have h2' : decide (wrap64 (H + L / 4294967296) > 2147483647) = false := decide_eq_false h2
            have hO := high_good l0 HL.out hn (e ▸ h1) (e ▸ h2)
            rw [e, hLo] at hO
            have HO := Lib.hid hO
            clear hO e hH hLo
            go_wp2
            go_ret2
            exact ⟨sum_ret HO.out, HB.out⟩
end Go.Proofs.YtnngbnhbmgdkoaaGreatDoor.E
