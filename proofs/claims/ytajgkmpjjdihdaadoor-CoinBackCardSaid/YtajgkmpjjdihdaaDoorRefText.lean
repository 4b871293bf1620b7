/- The document's texts of amounts. -/
import Derived.Test.YtajgkmpjjdihdaaDoorRefMul
import Derived.Test.YtajgkmpjjdihdaaDoorNumText
import Derived.Test.YtajgkmpjjdihdaaDoorWMore
import Derived.Test.YtajgkmpjjdihdaaDoorPx4
namespace Go.Proofs.YtajgkmpjjdihdaaDoor.E
open Go.RowKit Go.Proofs.YtajgkmpjjdihdaaDoor.P Go.Proofs.YtajgkmpjjdihdaaDoorW.PrintWords Go.Proofs.YtajgkmpjjdihdaaDoorW.PrintLast Go.Proofs.YtajgkmpjjdihdaaDoorW.PrintMore
theorem tens_at : ∀ d : Fin 10, strOfNums [((48 + d.val : Nat) : Int)] = ⟨#[UInt8.ofNat (48 + d.val)]⟩ := by decide +kernel
theorem ten_sign (n : Nat) (_h : n < 18446744073709551616) : strOfNums [(IntKind.u64.wrap (48 + (Int.tmod (n : Int) 10))) % 256] = ⟨#[UInt8.ofNat (48 + n % 10)]⟩ := by
  have e : (IntKind.u64.wrap (48 + (Int.tmod (n : Int) 10))) % 256 = ((48 + n % 10 : Nat) : Int) := by
    rw [Int.tmod_eq_emod_of_nonneg (Int.natCast_nonneg _), IntKind.wrap_u64]
    omega
  rw [e]
  exact tens_at ⟨n % 10, Nat.mod_lt _ (by decide)⟩
theorem ten_rest (n : Nat) (h : n < 18446744073709551616) : IntKind.u64.wrap (Int.tdiv (n : Int) 10) = ((n / 10 : Nat) : Int) := by
  rw [Int.tdiv_eq_ediv_of_nonneg (Int.natCast_nonneg _), IntKind.wrap_u64]
  omega
def front (k n : Nat) (out : List UInt8) : List UInt8 := (if n = 0 then [] else decRec k n) ++ out
theorem front_next (k n : Nat) (out : List UInt8) (_hn : n < 10 ^ (k + 1)) (h0 : 0 < n) : front k (n / 10) (UInt8.ofNat (48 + n % 10) :: out) = front (k + 1) n out := by
  unfold front
  rw [if_neg (show ¬ n = 0 by omega), decRec]
  by_cases h : n < 10
  · rw [if_pos (by omega), if_pos h, Nat.mod_eq_of_lt h]
    rfl
  · rw [if_neg (by omega), if_neg h, List.append_assoc]
    rfl
theorem ref_text_loop (x0 : Int) : ∀ (k n : Nat) (out : ByteArray), n < 10 ^ k → n < 18446744073709551616 → out.size + k ≤ 100 → Ev (fun j => cambistref01_Text.l0 j x0 (n : Int) out) ⟨((if x0 < 0 then [45] else []) ++ front k n out.data.toList).toArray⟩ := by
  intro k
  have stop : ∀ (k : Nat) (out : ByteArray), out.size ≤ 100 → Ev (fun j => cambistref01_Text.l0 j x0 (0 : Int) out) ⟨((if x0 < 0 then [45] else []) ++ front k 0 out.data.toList).toArray⟩ := by
    intro k out hs
    refine ev_succ ?_
    simp only [cambistref01_Text.l0]
    refine ev_neg (by omega) ?_
    by_cases hx : x0 < 0
    · refine ev_pos hx (ev_pos (by omega) (ev_some ?_))
      apply text_ext
      rw [if_pos hx]
      simp [front]
    · refine ev_neg hx (ev_some ?_)
      apply text_ext
      rw [if_neg hx]
      simp [front]
  induction k with
  | zero =>
    intro n out hn _ hs
    obtain rfl : n = 0 := by simpa using hn
    exact stop 0 out (by omega)
  | succ k ih =>
    intro n out hn h64 hs
    rcases Nat.eq_zero_or_pos n with h0 | h0
    · subst h0
      exact stop _ out (by omega)
    · refine ev_succ ?_
      simp only [cambistref01_Text.l0]
      refine ev_pos (by omega) (ev_opt rfl ?_)
      rw [ten_sign n h64, ten_rest n h64]
      refine ev_pos (by show 1 + out.size ≤ _; omega) ?_
      refine ev_eq ?_ (ih (n / 10) (⟨#[UInt8.ofNat (48 + n % 10)]⟩ ++ out) (by rw [Nat.pow_succ] at hn; omega) (by omega) (by rw [ByteArray.size_append]; show 1 + out.size + k ≤ 100; omega))
      congr 3
      rw [← front_next k n _ hn h0]
      simp
theorem ref_text {a : Int} (h : in64 a) : Ev (fun k => cambistref01_Text.f k a) ⟨(intText a).toArray⟩ := by
  have h1 := h.1
  have h2 := h.2
  have hm := natAbs_le h
  unfold cambistref01_Text.f
  refine ev_opt (size_some h) ?_
  rw [ten_sign _ (by omega), ten_rest _ (by omega)]
  refine ev_eq ?_ (ref_text_loop a 19 (a.natAbs / 10) ⟨#[UInt8.ofNat (48 + a.natAbs % 10)]⟩ (by omega) (by omega) (by show 1 + 19 ≤ 100; decide))
  congr 2
  have e : front 19 (a.natAbs / 10) [UInt8.ofNat (48 + a.natAbs % 10)] = decText a.natAbs := by
    unfold decText
    rw [decRec]
    unfold front
    by_cases h10 : a.natAbs < 10
    · rw [if_pos (by omega), if_pos h10, Nat.mod_eq_of_lt h10]
      rfl
    · rw [if_neg (by omega), if_neg h10]
  show (if a < 0 then [45] else []) ++ front 19 (a.natAbs / 10) [UInt8.ofNat (48 + a.natAbs % 10)] = intText a
  rw [e]
  unfold intText
  by_cases hn : a < 0
  · rw [if_pos hn, if_pos hn]
    rfl
  · rw [if_neg hn, if_neg hn, show a.natAbs = a.toNat by omega]
    rfl
theorem text_some {a : Int} (h : in64 a) : coin_Text.f a = some ⟨(intText a).toArray⟩ := if_pos h
end Go.Proofs.YtajgkmpjjdihdaaDoor.E
