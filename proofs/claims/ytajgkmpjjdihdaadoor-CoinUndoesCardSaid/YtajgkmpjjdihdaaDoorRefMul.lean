/- coin.Mul, and the document's: the product, or the error. -/
import Derived.Test.YtajgkmpjjdihdaaDoorRefAdd
import Derived.Test.YtajgkmpjjdihdaaDoorMul64
import Derived.Test.YtajgkmpjjdihdaaDoorPx1
import Derived.Test.YtajgkmpjjdihdaaDoorPx2
namespace Go.Proofs.YtajgkmpjjdihdaaDoor.E
open Go.RowKit Go.Proofs.YtajgkmpjjdihdaaDoor.P Go.Proofs.YtajgkmpjjdihdaaDoorW.PrintWords Go.Proofs.YtajgkmpjjdihdaaDoorW.PrintLast
theorem far_some {a : Int} (h : in64 a) : coin_far.f a = some (a.natAbs : Int) := by
  have h1 := h.1
  have h2 := h.2
  unfold coin_far.f
  by_cases hn : a < 0
  · rw [if_pos hn, IntKind.wrap_u64, IntKind.wrap_u64]
    congr 1
    omega
  · rw [if_neg hn, IntKind.wrap_u64]
    congr 1
    omega
theorem size_some {a : Int} (h : in64 a) : cambistref01_size.f a = some (a.natAbs : Int) := by
  have h1 := h.1
  have h2 := h.2
  unfold cambistref01_size.f
  by_cases hn : a < 0
  · rw [if_pos hn, wrap_in (x := a + 1) (by omega) (by omega), wrap_in (x := -(a + 1)) (by omega) (by omega), IntKind.wrap_u64, IntKind.wrap_u64]
    congr 1
    omega
  · rw [if_neg hn, IntKind.wrap_u64]
    congr 1
    omega
theorem natAbs_le {a : Int} (h : in64 a) : a.natAbs ≤ 9223372036854775808 := by
  have h1 := h.1
  have h2 := h.2
  omega
/-- The product by its size and its sign. -/
theorem mul_unlike {a b : Int} (h : (a < 0) ≠ (b < 0)) : a * b = -((a.natAbs * b.natAbs : Nat) : Int) := by
  by_cases ha : a < 0
  · have hb : ¬ b < 0 := fun hb => h (by simp [ha, hb])
    have e1 : (a.natAbs : Int) = -a := by omega
    have e2 : (b.natAbs : Int) = b := by omega
    rw [Int.natCast_mul, e1, e2, Int.neg_mul, Int.neg_neg]
  · have hb : b < 0 := by
      by_cases hb : b < 0
      · exact hb
      · exact absurd (by simp [ha, hb]) h
    have e1 : (a.natAbs : Int) = a := by omega
    have e2 : (b.natAbs : Int) = -b := by omega
    rw [Int.natCast_mul, e1, e2, Int.mul_neg, Int.neg_neg]
theorem mul_alike {a b : Int} (h : (a < 0) = (b < 0)) : a * b = ((a.natAbs * b.natAbs : Nat) : Int) := by
  by_cases ha : a < 0
  · have hb : b < 0 := h ▸ ha
    have e1 : (a.natAbs : Int) = -a := by omega
    have e2 : (b.natAbs : Int) = -b := by omega
    rw [Int.natCast_mul, e1, e2, Int.neg_mul_neg]
  · have hb : ¬ b < 0 := fun hb => ha (h ▸ hb)
    have e1 : (a.natAbs : Int) = a := by omega
    have e2 : (b.natAbs : Int) = b := by omega
    rw [Int.natCast_mul, e1, e2]
theorem mul_some {a b : Int} (ha : in64 a) (hb : in64 b) : Ev (fun k => coin_Mul.f k a b) (outOf (a * b)) := by
  have la := natAbs_le ha
  have lb := natAbs_le hb
  unfold coin_Mul.f
  have hm : bits_Mul64.f (a.natAbs : Int) (b.natAbs : Int) = some (((a.natAbs * b.natAbs / 18446744073709551616 : Nat) : Int), ((a.natAbs * b.natAbs % 18446744073709551616 : Nat) : Int)) := by
    unfold bits_Mul64.f
    rw [if_pos (by omega), Int.toNat_natCast, Int.toNat_natCast]
  refine ev_opt (far_some ha) (ev_opt (far_some hb) (ev_opt hm ?_))
  by_cases hs : (a < 0) ↔ (b < 0)
  · have hs' : (a < 0) = (b < 0) := propext hs
    have hp := mul_alike hs'
    rw [hp]
    generalize a.natAbs * b.natAbs = p at *
    refine ev_neg (by rw [bne_dec]; exact fun n => n hs) ?_
    by_cases h1 : ((p / 18446744073709551616 : Nat) : Int) > 0
    · exact ev_pos h1 (ev_some (outOf_over (by unfold in64; omega)).symm)
    · refine ev_neg h1 ?_
      by_cases h2 : ((p % 18446744073709551616 : Nat) : Int) > 9223372036854775807
      · exact ev_pos h2 (ev_some (outOf_over (by unfold in64; omega)).symm)
      · have hin : in64 (p : Int) := by unfold in64; omega
        refine ev_neg h2 (ev_some ?_)
        rw [outOf_in hin, show ((p % 18446744073709551616 : Nat) : Int) = (p : Int) by omega, wrap64_in hin]
  · have hs' : (a < 0) ≠ (b < 0) := fun e => hs (iff_of_eq e)
    have hp := mul_unlike hs'
    rw [hp]
    generalize a.natAbs * b.natAbs = p at *
    refine ev_pos (by rw [bne_dec]; exact hs) ?_
    by_cases h1 : ((p / 18446744073709551616 : Nat) : Int) = 0
    · refine ev_pos h1 (ev_succ ?_)
      simp only [coin_Mul.j0]
      by_cases h2 : ((p % 18446744073709551616 : Nat) : Int) ≤ 9223372036854775807 + 1
      · have hin : in64 (-(p : Int)) := by unfold in64; omega
        refine ev_pos (decide_eq_true h2) (ev_some ?_)
        rw [outOf_in hin, IntKind.wrap_u64]
        refine congrArg (fun z : Int => (z, (0 : Int))) ?_
        unfold wrap64
        omega
      · refine ev_neg (by simpa using h2) (ev_some ?_)
        rw [outOf_over (by unfold in64; omega)]
    · refine ev_neg h1 (ev_succ ?_)
      simp only [coin_Mul.j0]
      exact ev_neg (by decide) (ev_some (outOf_over (by unfold in64; omega)).symm)
theorem ref_mul_end (x y : Nat) (less : Bool) (n : Int) (limit : Nat) (hl : limit = if less = true then 9223372036854775808 else 9223372036854775807) (hn : n = if less = true then -((x * y : Nat) : Int) else ((x * y : Nat) : Int)) (hx : x ≤ 9223372036854775808) :
    Ev (fun k => cambistref01_Mul.j1 k (x : Int) (y : Int) less (limit : Int)) (outOf n) := by
  have hin : in64 n ↔ x * y ≤ limit := by
    rw [hn, hl]
    unfold in64
    generalize x * y = p
    cases less <;> simp <;> omega
  have fin : x * y ≤ limit → Ev (fun k => cambistref01_Mul.j2 k (x : Int) (y : Int) less false) (outOf n) := by
    intro h
    refine ev_succ ?_
    simp only [cambistref01_Mul.j2]
    rw [outOf_in (hin.2 h)]
    refine ev_neg (by decide) ?_
    rw [← Int.natCast_mul, hn]
    have hll : limit ≤ 9223372036854775808 := by rw [hl]; split <;> omega
    generalize x * y = p at *
    cases less with
    | true =>
      refine ev_pos rfl (ev_some ?_)
      rw [if_pos rfl, IntKind.wrap_u64, IntKind.wrap_u64]
      refine congrArg (fun z : Int => (z, (0 : Int))) ?_
      unfold wrap64
      omega
    | false =>
      have h63 : p ≤ 9223372036854775807 := by rw [hl] at h; simpa using h
      refine ev_neg (by decide) (ev_some ?_)
      rw [if_neg (by decide), IntKind.wrap_u64]
      refine congrArg (fun z : Int => (z, (0 : Int))) ?_
      unfold wrap64
      omega
  refine ev_succ ?_
  simp only [cambistref01_Mul.j1]
  rcases Nat.eq_zero_or_pos x with h0 | h0
  · subst h0
    refine ev_neg (by omega) (fin (by rw [Nat.zero_mul]; exact Nat.zero_le _))
  · refine ev_pos (by omega) (ev_neg (by omega) ?_)
    have hq : IntKind.u64.wrap (Int.tdiv (limit : Int) (x : Int)) = ((limit / x : Nat) : Int) := by
      rw [Int.tdiv_eq_ediv_of_nonneg (Int.natCast_nonneg _), ← Int.natCast_ediv]
      have : limit / x ≤ limit := Nat.div_le_self _ _
      have hll : limit ≤ 9223372036854775808 := by rw [hl]; split <;> omega
      exact IntWalk.u64_in _ (by generalize limit / x = q at *; omega)
    rw [hq]
    by_cases h : y ≤ limit / x
    · rw [decide_eq_false (by omega)]
      exact fin (by rw [Nat.mul_comm]; exact (Nat.le_div_iff_mul_le h0).1 h)
    · rw [decide_eq_true (by omega)]
      refine ev_succ ?_
      simp only [cambistref01_Mul.j2]
      refine ev_pos trivial (ev_some ?_)
      rw [outOf_over (fun e => h ((Nat.le_div_iff_mul_le h0).2 (by rw [Nat.mul_comm]; exact hin.1 e)))]
theorem ref_mul {a b : Int} (ha : in64 a) (hb : in64 b) : Ev (fun k => cambistref01_Mul.f k a b) (outOf (a * b)) := by
  have la := natAbs_le ha
  unfold cambistref01_Mul.f
  refine ev_opt (size_some ha) (ev_opt (size_some hb) ?_)
  have yes : (a < 0) ≠ (b < 0) → a ≠ 0 → b ≠ 0 → Ev (fun k => cambistref01_Mul.j0 k (a.natAbs : Int) (b.natAbs : Int) true) (outOf (a * b)) := by
    intro h _ _
    refine ev_succ ?_
    simp only [cambistref01_Mul.j0]
    exact ev_pos trivial (ref_mul_end _ _ true _ 9223372036854775808 rfl (mul_unlike h) la)
  have no : ((a < 0) = (b < 0) ∨ a = 0 ∨ b = 0) → Ev (fun k => cambistref01_Mul.j0 k (a.natAbs : Int) (b.natAbs : Int) false) (outOf (a * b)) := by
    intro h
    refine ev_succ ?_
    simp only [cambistref01_Mul.j0]
    refine ev_neg (by decide) (ref_mul_end _ _ false _ 9223372036854775807 rfl ?_ la)
    rcases h with h | h | h
    · exact mul_alike h
    · subst h; simp
    · subst h; simp
  by_cases h1 : a < 0
  · refine ev_pos h1 ?_
    by_cases h2 : b > 0
    · exact ev_pos h2 (yes (fun e => by have : b < 0 := e ▸ h1; omega) (by omega) (by omega))
    · refine ev_neg h2 (ev_neg (by omega) (no ?_))
      by_cases h3 : b = 0
      · exact .inr (.inr h3)
      · exact .inl (propext ⟨fun _ => by omega, fun _ => h1⟩)
  · refine ev_neg h1 ?_
    by_cases h2 : a > 0
    · refine ev_pos h2 ?_
      by_cases h3 : b < 0
      · rw [decide_eq_true h3]
        exact yes (fun e => h1 (e ▸ h3)) (by omega) (by omega)
      · rw [decide_eq_false h3]
        exact no (.inl (propext ⟨fun h => absurd h h1, fun h => absurd h h3⟩))
    · exact ev_neg h2 (no (.inr (.inl (by omega))))
end Go.Proofs.YtajgkmpjjdihdaaDoor.E
