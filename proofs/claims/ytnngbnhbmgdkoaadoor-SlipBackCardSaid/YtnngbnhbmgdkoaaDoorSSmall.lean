/- The walk of small: at most a hundred lines, of texts of at most a hundred bytes. -/
import Derived.Test.YtnngbnhbmgdkoaaDoorSText
import Derived.Test.YtnngbnhbmgdkoaaDoorSPlain
import Derived.WalkKit
import Derived.Lib.Hide
namespace Go.Proofs.YtnngbnhbmgdkoaaDoor.E
open Go.RowKit Go.Proofs.YtnngbnhbmgdkoaaDoor.P Go.Proofs.YtnngbnhbmgdkoaaDoorW.PrintWords Go.Proofs.YtnngbnhbmgdkoaaDoorW.PrintLast
def smallR (x : Row_) : Bool := decide (x.f1.size ≤ 100)
def smallB (who asset : ByteArray) (ls : List Row_) : Bool := decide (ls.length ≤ 100) && decide (who.size ≤ 100) && decide (asset.size ≤ 100) && ls.all smallR
theorem small_get {who asset : ByteArray} {ls : List Row_} (h : smallB who asset ls = true) : ls.length ≤ 100 ∧ who.size ≤ 100 ∧ asset.size ≤ 100 ∧ ∀ x ∈ ls, x.f1.size ≤ 100 := by
  unfold smallB smallR at h
  simp only [Bool.and_eq_true, decide_eq_true_eq, List.all_eq_true] at h
  exact ⟨h.1.1.1, h.1.1.2, h.1.2, h.2⟩
theorem small_no {who asset : ByteArray} {ls : List Row_} (h : ¬ (ls.length ≤ 100 ∧ who.size ≤ 100 ∧ asset.size ≤ 100 ∧ ∀ x ∈ ls, x.f1.size ≤ 100)) : smallB who asset ls = false := by
  cases hb : smallB who asset ls with
  | false => rfl
  | true => exact absurd (small_get hb) h
theorem small_yes {who asset : ByteArray} {ls : List Row_} (h : ls.length ≤ 100 ∧ who.size ≤ 100 ∧ asset.size ≤ 100 ∧ ∀ x ∈ ls, x.f1.size ≤ 100) : smallB who asset ls = true := by
  unfold smallB smallR
  simp only [Bool.and_eq_true, decide_eq_true_eq, List.all_eq_true]
  exact ⟨⟨⟨h.1, h.2.1⟩, h.2.2.1⟩, h.2.2.2⟩
set_option maxHeartbeats 2000000 in
set_option maxRecDepth 100000 in
set_option linter.unusedSimpArgs false in
set_option linter.unusedVariables false in
theorem small_calls (who asset : ByteArray) (day op : Int) (A : Option Addr) (c : Nat) (ls : List Row_) (cl : Int) (w : World) (hr : Kd.C k49 w A ls.length ls) (hc : ls.length ≤ c) :
    Calls Tryd.prog 13 #[.agg #[.string who, .string asset, .int .u64 day, .int .i64 op, .slice A ls.length c, .int .i64 cl]] w fun e w' => e = .returned (.bool (smallB who asset ls)) ∧ Below w.heap.size w w' := by
  have HR := Lib.hid hr
  clear hr
  go_enter Tryd.func13, Tryd.ntmps13
  go_upto_region 1 with (fail)
  have hB := heap_alloc_new w (.cells #[.string who, .string asset, .int .u64 day, .int .i64 op, .slice A ls.length c, .int .i64 cl] 28)
  have hb : Below w.heap.size w (w.alloc (.cells #[.string who, .string asset, .int .u64 day, .int .i64 op, .slice A ls.length c, .int .i64 cl] 28)) := below_alloc (Below.refl _ _) _
  obtain ⟨g, hg⟩ : ∃ g, g = w.heap.size := ⟨_, rfl⟩
  obtain ⟨w1, hw1⟩ : ∃ W, W = w.alloc (.cells #[.string who, .string asset, .int .u64 day, .int .i64 op, .slice A ls.length c, .int .i64 cl] 28) := ⟨_, rfl⟩
  rw [← hw1] at hB hb ⊢
  rw [← hg] at hB ⊢
  clear hw1 hg
  have c0 : w1.cell? ⟨g, 0, none⟩ = some (.string who) := (blk_cell hB 0).trans rfl
  have c1 : w1.cell? ⟨g, 1, none⟩ = some (.string asset) := (blk_cell hB 1).trans rfl
  have c4 : w1.cell? ⟨g, 4, none⟩ = some (.slice A ls.length c) := (blk_cell hB 4).trans rfl
  have HL := Lib.hid (Kd.C_below HR.out hb)
  have HB := Lib.hid hb
  clear hB hb HR
  obtain ⟨n, hn⟩ : ∃ n, ls.length = n := ⟨_, rfl⟩
  have HN := Lib.hid hn
  rw [hn] at c4 hc
  by_cases h1 : n ≤ 100
  · have m1 : ¬ (100 : Int) < (n : Int) := by omega
    have m2 : decide ((n : Int) > 100) = false := decide_eq_false m1
    by_cases h2 : who.size ≤ 100
    · have m3 : ¬ (100 : Int) < (who.size : Int) := by omega
      have m4 : decide ((who.size : Int) > 100) = false := decide_eq_false m3
      by_cases h3 : asset.size ≤ 100
      · have m5 : ¬ (100 : Int) < (asset.size : Int) := by omega
        have m6 : decide ((asset.size : Int) > 100) = false := decide_eq_false m5
        clear hn
        go_upto_region 3 with (fail)
        clear m1 m2 m3 m4 m5 m6 c0 c1
        go_wp2
        go_loop [3] (fun i => ∃ k : Nat, k ≤ n ∧ i = .int .i64 k ∧ Hid (∀ x ∈ ls.take k, x.f1.size ≤ 100)) (fun i => n - (intOf i).toNat)
        case atStart => exact ⟨0, Nat.zero_le _, rfl, Lib.hid (fun x hx => by simp at hx)⟩
        case round =>
          obtain ⟨k, hk, rfl, HS⟩ := hrel
          by_cases hlt : k < n
          · have hll : k < ls.length := by rw [HN.out]; exact hlt
            obtain ⟨ad, had, p0, p1, p2⟩ := lines_get HL.out k hll
            obtain ⟨x, hx⟩ : ∃ x, ls[k] = x := ⟨_, rfl⟩
            rw [hx] at p1
            subst had
            have hn1 : decide ((k : Int) < (n : Int)) = true := decide_eq_true (by omega)
            have HX := Lib.hid hx
            have HLL := Lib.hid hll
            clear hx p0 p2
            by_cases h4 : x.f1.size ≤ 100
            · have m1 : ¬ (100 : Int) < (x.f1.size : Int) := by omega
              have m2 : decide ((x.f1.size : Int) > 100) = false := decide_eq_false m1
              go_wp2
              go_round
              case rel =>
                refine ⟨k + 1, by omega, by go_num, Lib.hid (fun y hy => ?_)⟩
                rw [List.take_succ_eq_append_getElem HLL.out] at hy
                rcases List.mem_append.1 hy with hy | hy
                · exact HS.out y hy
                · rw [List.mem_singleton.1 hy, HX.out]
                  exact h4
              case measure => simp [intOf]; omega
            · have m1 : (100 : Int) < (x.f1.size : Int) := by omega
              have m2 : decide ((x.f1.size : Int) > 100) = true := decide_eq_true m1
              go_wp2
              go_ret
              refine ⟨?_, HB.out⟩
              rw [small_no (fun h => h4 (by have := h.2.2.2 _ (List.getElem_mem HLL.out); rw [HX.out] at this; exact this))]
              rfl
          · obtain rfl : k = n := by omega
            have hn1 : decide ((k : Int) < (k : Int)) = false := decide_eq_false (by omega)
            go_wp2
            go_ret
            refine ⟨?_, HB.out⟩
            have h5 := HS.out
            have e : ls.take k = ls := by rw [← HN.out, List.take_length]
            rw [e] at h5
            rw [small_yes ⟨by rw [HN.out]; exact h1, h2, h3, h5⟩]
            rfl
      · have m5 : (100 : Int) < (asset.size : Int) := by omega
        have m6 : decide ((asset.size : Int) > 100) = true := decide_eq_true m5
        clear hn
        go_wp2
        go_ret
        exact ⟨by rw [small_no (fun h => h3 h.2.2.1)]; rfl, HB.out⟩
    · have m3 : (100 : Int) < (who.size : Int) := by omega
      have m4 : decide ((who.size : Int) > 100) = true := decide_eq_true m3
      clear hn
      go_wp2
      go_ret
      exact ⟨by rw [small_no (fun h => h2 h.2.1)]; rfl, HB.out⟩
  · have m1 : (100 : Int) < (n : Int) := by omega
    have m2 : decide ((n : Int) > 100) = true := decide_eq_true m1
    clear hn
    go_wp2
    go_ret
    exact ⟨by rw [small_no (fun h => h1 (HN.out ▸ h.1))]; rfl, HB.out⟩
end Go.Proofs.YtnngbnhbmgdkoaaDoor.E
