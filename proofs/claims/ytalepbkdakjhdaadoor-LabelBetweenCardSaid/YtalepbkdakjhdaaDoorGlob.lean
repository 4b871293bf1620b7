/- What the walks know of package-level variables: internal/bytealg.MaxLen holds some int. -/
import Derived.Below
import Derived.Test.YtalepbkdakjhdaaDoorWWords
namespace Go.Proofs.YtalepbkdakjhdaaDoor.E
open Go.RowKit
/-- The cells of the variables that this seat's code reads hold what they are read as. -/
structure Glob (w : World) : Prop where
  max : ∃ m : Int, w.cell? ⟨0, 0, none⟩ = some (.int .i64 m)
theorem Glob.below {w w' : World} (h : Glob w) (hb : Below w.heap.size w w') : Glob w' := by
  obtain ⟨m, hm⟩ := h.max
  exact ⟨m, (hb.cell (World.block_lt_of_cell? w _ hm)).trans hm⟩
theorem Glob.drew {w : World} (h : Glob w) : Glob w.drew := h.below (Below.refl _ _).drew
theorem Glob.drewN {w : World} (h : Glob w) (n : Nat) : Glob (w.drewN n) := h.below ⟨rfl, rfl, rfl, Nat.le_refl _, fun _ _ => rfl⟩
end Go.Proofs.YtalepbkdakjhdaaDoor.E
