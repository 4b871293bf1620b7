/- Numbers in sixteens: their digits, and what follows of their order. -/
import Derived.Test.YtjlifcbddednaaaDoorDigits
import Derived.Test.YtjlifcbddednaaaDoorNumber
import Derived.Test.YtjlifcbddednaaaDoorEv
namespace Go.Proofs.YtjlifcbddednaaaDoor.E
open Go.RowKit Go.Proofs.YtjlifcbddednaaaDoorW.PrintWords Go.Proofs.YtjlifcbddednaaaDoorW.PrintLast

def digitsRec : Nat → Nat → List UInt8
  | 0, _ => []
  | k + 1, n => (hexSign (n / 16 ^ k % 16)).toUInt8 :: digitsRec k n
theorem digitsOf_data (n : Nat) : (digitsOf n).data.toList = digitsRec 16 n := rfl
theorem digitsRec_length (k n : Nat) : (digitsRec k n).length = k := by
  induction k with
  | zero => rfl
  | succ k ih => simp [digitsRec, ih]
theorem digitsOf_size (n : Nat) : (digitsOf n).size = 16 := by
  rw [← size_len, digitsOf_data, digitsRec_length]

theorem sign_facts : ∀ a : Fin 16, hexPlace (hexSign a.val).toUInt8 = (a.val : Int) := by decide
theorem place_sign (d : Nat) (h : d < 16) : hexPlace (hexSign d).toUInt8 = (d : Int) := sign_facts ⟨d, h⟩
theorem sign_lt_facts : ∀ a b : Fin 16, decide ((hexSign a.val).toUInt8 < (hexSign b.val).toUInt8) = decide (a.val < b.val) ∧ ((hexSign a.val).toUInt8 == (hexSign b.val).toUInt8) = decide (a.val = b.val) := by decide
theorem sign_lt (a b : Nat) (ha : a < 16) (hb : b < 16) : decide ((hexSign a).toUInt8 < (hexSign b).toUInt8) = decide (a < b) := (sign_lt_facts ⟨a, ha⟩ ⟨b, hb⟩).1
theorem sign_eq (a b : Nat) (ha : a < 16) (hb : b < 16) : ((hexSign a).toUInt8 == (hexSign b).toUInt8) = decide (a = b) := (sign_lt_facts ⟨a, ha⟩ ⟨b, hb⟩).2

theorem fold_digits (k n : Nat) : ∀ acc, (digitsRec k n).foldl (fun n c => n * 16 + (hexPlace c).toNat) acc = acc * 16 ^ k + n % 16 ^ k := by
  induction k with
  | zero => intro acc; simp [digitsRec, Nat.mod_one]
  | succ k ih =>
    intro acc
    rw [digitsRec, List.foldl_cons, ih, place_sign _ (Nat.mod_lt _ (by decide)), Int.toNat_natCast, Nat.mod_pow_succ, Nat.pow_succ, Nat.add_mul, Nat.mul_assoc, Nat.mul_comm 16 (16 ^ k), Nat.mul_comm (n / 16 ^ k % 16)]
    omega
theorem hexAll_digits (k n : Nat) : hexAll (digitsRec k n) = true := by
  induction k with
  | zero => rfl
  | succ k ih =>
    show (decide (0 ≤ hexPlace _) && hexAll (digitsRec k n)) = true
    rw [ih, place_sign _ (Nat.mod_lt _ (by decide)), decide_eq_true (Int.natCast_nonneg _)]
    rfl
theorem numFold_digits (n : Nat) (h : n < 18446744073709551616) : numFold (digitsOf n).data.toList = n := by
  rw [digitsOf_data]
  unfold numFold
  rw [fold_digits, Nat.zero_mul, Nat.zero_add]
  exact Nat.mod_eq_of_lt h
theorem number_digits (n : Nat) (h : n < 18446744073709551616) : label_Number.f (digitsOf n) = some ((n : Int), 0) := by
  unfold label_Number.f
  rw [if_pos (digitsOf_size n), if_pos (by rw [digitsOf_data]; exact hexAll_digits 16 n), numFold_digits n h]
theorem digitsOf_inj {a b : Nat} (ha : a < 18446744073709551616) (hb : b < 18446744073709551616) (h : digitsOf a = digitsOf b) : a = b := by
  rw [← numFold_digits a ha, ← numFold_digits b hb, h]

theorem less_digits (k a b : Nat) : Op.bytesLess (digitsRec k a) (digitsRec k b) = decide (a % 16 ^ k < b % 16 ^ k) := by
  induction k with
  | zero => simp [digitsRec, Op.bytesLess, Nat.mod_one]
  | succ k ih =>
    have ha : a / 16 ^ k % 16 < 16 := Nat.mod_lt _ (by decide)
    have hb : b / 16 ^ k % 16 < 16 := Nat.mod_lt _ (by decide)
    simp only [digitsRec, Op.bytesLess]
    rw [sign_lt _ _ ha hb, sign_eq _ _ ha hb, ih, Nat.mod_pow_succ, Nat.mod_pow_succ]
    have h1 : a % 16 ^ k < 16 ^ k := Nat.mod_lt _ (Nat.pow_pos (by decide))
    have h2 : b % 16 ^ k < 16 ^ k := Nat.mod_lt _ (Nat.pow_pos (by decide))
    generalize a / 16 ^ k % 16 = x at *
    generalize b / 16 ^ k % 16 = y at *
    generalize a % 16 ^ k = u at *
    generalize b % 16 ^ k = v at *
    generalize 16 ^ k = p at *
    rw [Bool.eq_iff_iff]
    simp only [Bool.or_eq_true, Bool.and_eq_true, decide_eq_true_eq]
    constructor
    · rintro (h | ⟨rfl, h⟩)
      · have : p * (x + 1) ≤ p * y := Nat.mul_le_mul_left p h
        rw [Nat.mul_add] at this
        omega
      · omega
    · intro h
      rcases Nat.lt_trichotomy x y with hxy | rfl | hxy
      · exact .inl hxy
      · exact .inr ⟨rfl, by omega⟩
      · have : p * (y + 1) ≤ p * x := Nat.mul_le_mul_left p hxy
        rw [Nat.mul_add] at this
        omega
theorem digitsOf_less {a b : Nat} (ha : a < 18446744073709551616) (hb : b < 18446744073709551616) : Op.bytesLess (digitsOf a).toList (digitsOf b).toList = decide (a < b) := by
  rw [toList_data, toList_data, digitsOf_data, digitsOf_data, less_digits]
  have e : (16 : Nat) ^ 16 = 18446744073709551616 := by decide
  rw [e, Nat.mod_eq_of_lt ha, Nat.mod_eq_of_lt hb]
theorem u64_range {a : Int} (h : (Lit.int .u64 a).wf = true) : ∃ n : Nat, a = n ∧ n < 18446744073709551616 := by
  have : 0 ≤ a ∧ a < 18446744073709551616 := by
    simp [Lit.wf, IntKind.min, IntKind.max, IntKind.signed, IntKind.bits] at h
    omega
  exact ⟨a.toNat, by omega, by omega⟩
theorem digits_some (n : Nat) (h : n < 18446744073709551616) : label_Digits.f (n : Int) = some (digitsOf n) := by
  unfold label_Digits.f
  rw [if_pos (by omega), Int.toNat_natCast]
end Go.Proofs.YtjlifcbddednaaaDoor.E
