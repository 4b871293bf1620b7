/- The pure statement of LabelRises: numbers' digits stand in the numbers' order, and are those of the number again. -/
import Derived.Test.YtalepbkdakjhdaaDoorAwake02
import Derived.Test.YtalepbkdakjhdaaDoorHex
import Derived.Test.YtalepbkdakjhdaaDoorPx6
namespace Go.Proofs.YtalepbkdakjhdaaDoor.Pure
open Go.RowKit Go.Proofs.YtalepbkdakjhdaaDoor.E Go.Proofs.YtalepbkdakjhdaaDoor.P Go.Proofs.YtalepbkdakjhdaaDoorW.PrintWords Go.Proofs.YtalepbkdakjhdaaDoorW.PrintLast
theorem LabelRises (a0 : Int) (g0 : (Lit.int .u64 a0).wf = true) (a1 : Int) (g1 : (Lit.int .u64 a1).wf = true) : ∃ k, cambistlaw02_LabelRises.f k a0 a1 = some true := by
  obtain ⟨a, rfl, ha⟩ := u64_range g0
  obtain ⟨b, rfl, hb⟩ := u64_range g1
  refine ⟨20, ?_⟩
  unfold cambistlaw02_LabelRises.f
  have h1 : (decide (a < b)) = (decide ((a : Int) < (b : Int))) := by rw [Bool.eq_iff_iff]; simp
  have h2 : ((digitsOf a).toList == (digitsOf b).toList) = ((a : Int) == (b : Int)) := by
    rw [Bool.eq_iff_iff, beq_iff_eq, beq_iff_eq, toList_inj]
    exact ⟨fun h => by rw [digitsOf_inj ha hb h], fun h => by rw [Int.natCast_inj.1 h]⟩
  rw [awake_true, digits_some a ha, digits_some b hb]
  simp only [Option.bind_some]
  rw [number_digits a ha]
  simp only [Option.bind_some]
  rw [if_pos trivial, if_pos (by rw [digitsOf_less ha hb, h1, beq_self_eq_true]), if_pos (by rw [h2, beq_self_eq_true]), if_pos trivial, if_pos trivial, digitsOf_size]
  rfl
end Go.Proofs.YtalepbkdakjhdaaDoor.Pure
