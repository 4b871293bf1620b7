/- math/bits.Mul64, as this seat's walks take it. -/
import Derived.Test.YtajgkmpjjdihdaaDoorGlob
import Derived.Test.YtajgkmpjjdihdaaDoorShelf
namespace Go.Proofs.YtajgkmpjjdihdaaDoor.E
open Go.RowKit
def bits_Mul64.f (a0 : Int) (a1 : Int) : Option (Int × Int) :=
  if 0 ≤ a0 ∧ a0 < 18446744073709551616 ∧ 0 ≤ a1 ∧ a1 < 18446744073709551616 then some (((a0.toNat * a1.toNat / 18446744073709551616 : Nat) : Int), ((a0.toNat * a1.toNat % 18446744073709551616 : Nat) : Int)) else none
theorem bits_Mul64.calls (a0 : Int) (a1 : Int) (r1 : Int) (r2 : Int) (w : World) (_hG : Glob w) (h : bits_Mul64.f a0 a1 = some (r1, r2)) :
    Calls Tryd.prog 24 #[.int .u64 a0, .int .u64 a1] w fun e w' => e = .returned (.tuple #[.int .u64 r1, .int .u64 r2]) ∧ Below w.heap.size w w' := by
  unfold bits_Mul64.f at h
  split at h
  case isFalse => cases h
  rename_i hb
  obtain ⟨x, rfl⟩ := Int.eq_ofNat_of_zero_le hb.1
  obtain ⟨y, rfl⟩ := Int.eq_ofNat_of_zero_le hb.2.2.1
  have e := Option.some.inj h
  obtain ⟨rfl, rfl⟩ := Prod.mk.inj e
  refine (Tryd.bits_Mul64 x y (by omega) (by omega) w).mono ?_
  rintro e w' ⟨rfl, rfl⟩
  exact ⟨rfl, Below.refl _ _⟩
end Go.Proofs.YtajgkmpjjdihdaaDoor.E
