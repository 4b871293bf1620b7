/- The pure statement of LabelNames. -/
import Derived.Test.YtalepbkdakjhdaaDoorAwake02
import Derived.Test.YtalepbkdakjhdaaDoorPx3
namespace Go.Proofs.YtalepbkdakjhdaaDoor.Pure
open Go.RowKit Go.Proofs.YtalepbkdakjhdaaDoor.P Go.Proofs.YtalepbkdakjhdaaDoorW.PrintWords Go.Proofs.YtalepbkdakjhdaaDoorW.PrintLast
theorem LabelNames : ∃ k, cambistlaw02_LabelNames.f k = some true := by
  refine ⟨20, ?_⟩
  unfold cambistlaw02_LabelNames.f
  rw [awake_true]
  rfl
end Go.Proofs.YtalepbkdakjhdaaDoor.Pure
