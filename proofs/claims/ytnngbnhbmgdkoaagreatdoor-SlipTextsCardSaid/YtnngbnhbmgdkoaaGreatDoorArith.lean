/- Sums, differences and products of 64 bits, in plain words; signs of bits. -/
import Derived.Test.YtnngbnhbmgdkoaaGreatDoorNumText
import Derived.Test.YtnngbnhbmgdkoaaGreatDoorEv
import Derived.Laws.BitsLemmas
import Derived.Laws.Bits64
import Derived.IntWalk
namespace Go.Proofs.YtnngbnhbmgdkoaaGreatDoor.E
open Go.RowKit Go.Proofs.YtnngbnhbmgdkoaaGreatDoorW.PrintWords Go.Proofs.YtnngbnhbmgdkoaaGreatDoorW.PrintLast

def outOf (n : Int) : Int × Int := if in64 n then (n, 0) else (0, 10)
theorem outOf_in {n : Int} (h : in64 n) : outOf n = (n, 0) := if_pos h
theorem outOf_over {n : Int} (h : ¬ in64 n) : outOf n = (0, 10) := if_neg h
theorem i64_range {a : Int} (h : (Lit.int .i64 a).wf = true) : in64 a := by
  simp [Lit.wf, IntKind.min, IntKind.max, IntKind.signed, IntKind.bits] at h
  unfold in64
  omega
theorem wrap64_in {x : Int} (h : in64 x) : wrap64 x = x := wrap_in h.1 h.2

/-! ### The sign of bits -/
theorem wrap_neg (n : Nat) (h : n < 18446744073709551616) : IntKind.i64.wrap (n : Int) < 0 ↔ 9223372036854775808 ≤ n := by
  rw [IntKind.wrap_i64]
  omega
theorem wrap_back (n : Nat) (h : n < 18446744073709551616) : ((IntKind.i64.wrap (n : Int)) % 18446744073709551616).toNat = n := by
  rw [IntKind.wrap_i64]
  omega
theorem ofInt_toNat (x : Int) : (BitVec.ofInt 64 x).toNat = (x % 18446744073709551616).toNat := by
  rw [BitVec.toNat_ofInt]
  rfl
theorem msb_ge (B : BitVec 64) : B.msb = decide (9223372036854775808 ≤ B.toNat) := by
  rw [BitVec.msb_eq_decide]
theorem msb_int {x : Int} (h : in64 x) : (BitVec.ofInt 64 x).msb = decide (x < 0) := by
  have h0 := h.1
  have h1 := h.2
  rw [msb_ge, ofInt_toNat, Bool.eq_iff_iff, decide_eq_true_eq, decide_eq_true_eq]
  omega
theorem ofInt_wrap (B : BitVec 64) : BitVec.ofInt 64 (IntKind.i64.wrap (B.toNat : Int)) = B := by
  apply BitVec.eq_of_toNat_eq
  rw [ofInt_toNat, wrap_back _ B.isLt]
theorem xor_bits (x y : Int) : BitVec.ofInt 64 (bits .xor .i64 x y) = BitVec.ofInt 64 x ^^^ BitVec.ofInt 64 y := by
  show BitVec.ofInt 64 (IntKind.i64.wrap ((BitVec.ofInt 64 x ^^^ BitVec.ofInt 64 y).toNat : Int)) = _
  rw [ofInt_wrap]
theorem and_neg (x y : Int) : bits .and .i64 x y < 0 ↔ ((BitVec.ofInt 64 x).msb = true ∧ (BitVec.ofInt 64 y).msb = true) := by
  show IntKind.i64.wrap ((BitVec.ofInt 64 x &&& BitVec.ofInt 64 y).toNat : Int) < 0 ↔ _
  rw [wrap_neg _ (BitVec.isLt _), ← Bool.and_eq_true, ← BitVec.msb_and, msb_ge, decide_eq_true_eq]
/-- Both x and y stand to s with unlike signs. -/
theorem over_sign {x y s : Int} (hx : in64 x) (hy : in64 y) (hs : in64 s) : bits .and .i64 (bits .xor .i64 x s) (bits .xor .i64 y s) < 0 ↔ ((decide (x < 0) != decide (s < 0)) = true ∧ (decide (y < 0) != decide (s < 0)) = true) := by
  rw [and_neg, xor_bits, xor_bits, BitVec.msb_xor, BitVec.msb_xor, msb_int hx, msb_int hy, msb_int hs]
theorem over_sign' {x y z : Int} (hx : in64 x) (hy : in64 y) (hz : in64 z) : bits .and .i64 (bits .xor .i64 x y) (bits .xor .i64 x z) < 0 ↔ ((decide (x < 0) != decide (y < 0)) = true ∧ (decide (x < 0) != decide (z < 0)) = true) := by
  rw [and_neg, xor_bits, xor_bits, BitVec.msb_xor, BitVec.msb_xor, msb_int hx, msb_int hy, msb_int hz]
theorem bne_dec (p q : Prop) [Decidable p] [Decidable q] : (decide p != decide q) = true ↔ ¬ (p ↔ q) := by
  by_cases hp : p <;> by_cases hq : q <;> simp [hp, hq]
theorem add_over {a b : Int} (ha : in64 a) (hb : in64 b) : bits .and .i64 (bits .xor .i64 a (wrap64 (a + b))) (bits .xor .i64 b (wrap64 (a + b))) < 0 ↔ ¬ in64 (a + b) := by
  have h1 := ha.1
  have h2 := ha.2
  have h3 := hb.1
  have h4 := hb.2
  have hw : in64 (wrap64 (a + b)) := by unfold in64 wrap64; omega
  rw [over_sign ha hb hw, bne_dec, bne_dec]
  unfold in64 wrap64
  omega
theorem sub_over {a b : Int} (ha : in64 a) (hb : in64 b) : bits .and .i64 (bits .xor .i64 a b) (bits .xor .i64 a (wrap64 (a - b))) < 0 ↔ ¬ in64 (a - b) := by
  have h1 := ha.1
  have h2 := ha.2
  have h3 := hb.1
  have h4 := hb.2
  have hw : in64 (wrap64 (a - b)) := by unfold in64 wrap64; omega
  rw [over_sign' ha hb hw, bne_dec, bne_dec]
  unfold in64 wrap64
  omega
end Go.Proofs.YtnngbnhbmgdkoaaGreatDoor.E
