/- The sum of two halves: what coin.Sum computes, in plain words. -/
import Derived.Test.YtnngbnhbmgdkoaaGreatDoorArith
import Derived.Laws.Bits128
import Derived.Laws.BitsAllLaws
namespace Go.Proofs.YtnngbnhbmgdkoaaGreatDoor.E
open Go.RowKit Go.Proofs.YtnngbnhbmgdkoaaGreatDoorW.PrintWords Go.Proofs.YtnngbnhbmgdkoaaGreatDoorW.PrintLast

def hiS : List Int → Int
  | [] => 0
  | x :: l => x / 4294967296 + hiS l
def loS : List Int → Int
  | [] => 0
  | x :: l => x % 4294967296 + loS l
def sumI : List Int → Int
  | [] => 0
  | x :: l => x + sumI l
theorem hiS_app (l m : List Int) : hiS (l ++ m) = hiS l + hiS m := by
  induction l with
  | nil => simp [hiS]
  | cons x l ih => simp only [List.cons_append, hiS, ih]; omega
theorem loS_app (l m : List Int) : loS (l ++ m) = loS l + loS m := by
  induction l with
  | nil => simp [loS]
  | cons x l ih => simp only [List.cons_append, loS, ih]; omega
theorem sumI_app (l m : List Int) : sumI (l ++ m) = sumI l + sumI m := by
  induction l with
  | nil => simp [sumI]
  | cons x l ih => simp only [List.cons_append, sumI, ih]; omega
theorem halves_sum (l : List Int) : hiS l * 4294967296 + loS l = sumI l := by
  induction l with
  | nil => rfl
  | cons x l ih => simp only [hiS, loS, sumI]; omega
theorem hiS_le (l : List Int) (h : ∀ x ∈ l, in64 x) : -(2147483648 * (l.length : Int)) ≤ hiS l ∧ hiS l ≤ 2147483648 * (l.length : Int) := by
  induction l with
  | nil => simp [hiS]
  | cons x l ih =>
    have hx := h x (List.mem_cons_self ..)
    have h0 := hx.1
    have h1 := hx.2
    have := ih (fun y hy => h y (List.mem_cons_of_mem _ hy))
    simp only [hiS, List.length_cons]
    omega
theorem loS_le (l : List Int) : 0 ≤ loS l ∧ loS l ≤ 4294967296 * (l.length : Int) := by
  induction l with
  | nil => simp [loS]
  | cons x l ih =>
    simp only [loS, List.length_cons]
    omega
theorem and32 (n : Int) : bits .and .i64 n 4294967295 = n % 4294967296 := by
  have h32 : (BitVec.ofInt 64 4294967295).toNat = 2 ^ 32 - 1 := by decide
  have key : (BitVec.ofInt 64 n &&& BitVec.ofInt 64 4294967295).toNat = (n % ((2 ^ 64 : Nat) : Int)).toNat % 2 ^ 32 := by
    rw [BitVec.toNat_and, BitVec.toNat_ofInt, h32, Nat.and_two_pow_sub_one_eq_mod]
  show IntKind.i64.wrap ((BitVec.ofInt 64 n &&& BitVec.ofInt 64 4294967295).toNat : Nat) = n % 4294967296
  rw [key, IntKind.wrap_i64]
  omega
theorem or32 (h d : Int) (h0 : -2147483648 ≤ h) (h1 : h ≤ 2147483647) (d0 : 0 ≤ d) (d1 : d < 4294967296) : bits .or .i64 (h * 4294967296) d = h * 4294967296 + d := by
  have key : (BitVec.ofInt 64 (h * 4294967296) ||| BitVec.ofInt 64 d).toNat = ((h * 4294967296) % 18446744073709551616).toNat + d.toNat := by
    rw [BitVec.toNat_or, ofInt_toNat, ofInt_toNat, show d % 18446744073709551616 = d by omega]
    exact nat_join 32 _ _ (by omega) (by omega)
  show IntKind.i64.wrap ((BitVec.ofInt 64 (h * 4294967296) ||| BitVec.ofInt 64 d).toNat : Nat) = _
  rw [key, IntKind.wrap_i64]
  omega
theorem take_next (l : List Int) (k : Nat) (h : k < l.length) : l.take (k + 1) = l.take k ++ [l.getD k 0] := by
  rw [List.take_succ_eq_append_getElem h, List.getD_eq_getElem?_getD, List.getElem?_eq_getElem h]
  rfl
theorem hi_next (l : List Int) (hl : ∀ x ∈ l, in64 x) (hn : l.length ≤ 1048576) (k : Nat) (h : k < l.length) : wrap64 (hiS (l.take k) + l.getD k 0 / 4294967296) = hiS (l.take (k + 1)) := by
  have e : hiS (l.take (k + 1)) = hiS (l.take k) + l.getD k 0 / 4294967296 := by rw [take_next l k h, hiS_app]; simp [hiS]
  have b := hiS_le (l.take (k + 1)) (fun x hx => hl x (List.mem_of_mem_take hx))
  have : (l.take (k + 1)).length ≤ l.length := by rw [List.length_take]; omega
  rw [← e]
  exact wrap_in (by omega) (by omega)
theorem lo_next (l : List Int) (hn : l.length ≤ 1048576) (k : Nat) (h : k < l.length) : wrap64 (loS (l.take k) + bits .and .i64 (l.getD k 0) 4294967295) = loS (l.take (k + 1)) := by
  have e : loS (l.take (k + 1)) = loS (l.take k) + l.getD k 0 % 4294967296 := by rw [take_next l k h, loS_app]; simp [loS]
  have b := loS_le (l.take (k + 1))
  have : (l.take (k + 1)).length ≤ l.length := by rw [List.length_take]; omega
  rw [and32, ← e]
  exact wrap_in (by omega) (by omega)
def highOf (l : List Int) : Int := wrap64 (hiS l + loS l / 4294967296)
theorem high_eq (l : List Int) (hl : ∀ x ∈ l, in64 x) (hn : l.length ≤ 1048576) : highOf l = sumI l / 4294967296 := by
  have a := hiS_le l hl
  have b := loS_le l
  have c := halves_sum l
  unfold highOf
  rw [wrap_in (by omega) (by omega)]
  omega
theorem low_eq (l : List Int) : loS l % 4294967296 = sumI l % 4294967296 := by
  have c := halves_sum l
  omega
theorem high_bad (l : List Int) (hl : ∀ x ∈ l, in64 x) (hn : l.length ≤ 1048576) (h : highOf l < -2147483648 ∨ highOf l > 2147483647) : outOf (sumI l) = (0, 10) := by
  rw [high_eq l hl hn] at h
  exact outOf_over (by unfold in64; omega)
theorem high_good (l : List Int) (hl : ∀ x ∈ l, in64 x) (hn : l.length ≤ 1048576) (h0 : ¬ highOf l < -2147483648) (h1 : ¬ highOf l > 2147483647) : outOf (sumI l) = (bits .or .i64 (highOf l * 4294967296) (bits .and .i64 (loS l) 4294967295), 0) := by
  rw [high_eq l hl hn] at *
  rw [outOf_in (by unfold in64; omega), and32, low_eq l, or32 _ _ (by omega) (by omega) (by omega) (by omega)]
  congr 1
  omega
def coin_Sum.f (l : List Int) : Option (Int × Int) := if l.length ≤ 1048576 ∧ ∀ x ∈ l, in64 x then some (outOf (sumI l)) else none
end Go.Proofs.YtnngbnhbmgdkoaaGreatDoor.E
