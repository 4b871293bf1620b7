/- What a row's first world gives of package variables; and a world for the rows' witnesses, in which the listed tables lie. -/
import Derived.Test.YtalepbkdakjhdaaDoorGlob
import Derived.Test.YtalepbkdakjhdaaDoorRows
import Derived.Shelf.Vars
import Derived.LaidLaws
namespace Go.Proofs.YtalepbkdakjhdaaDoor.E
open Go.RowKit
theorem glob_of {W : World} (h : W.ShapedOpen Tryd.prog) : Glob W :=
  ⟨Go.Proofs.cell_of_shapedOpen_int (zero := #[.int .i64 0]) (t := 3) h (of_decide_eq_true (by kernel_rfl)) (by kernel_rfl) rfl (by kernel_rfl) (by kernel_rfl) Tryd.underlying3⟩
def tableFirst : Array Value := (Go.Pinned.utf8FirstZ.map fun (n : Nat) => Value.int .u8 (n : Int)).toArray
def tableAccept : Array Value := ([128, 191, 160, 191, 128, 159, 144, 191, 128, 143, 0, 0, 0, 0, 0, 0, 0, 0, 0, 0, 0, 0, 0, 0, 0, 0, 0, 0, 0, 0, 0, 0].map fun (n : Int) => Value.int .u8 n).toArray
def layTable (cs : Array Value) : Obj → Obj
  | .cells _ t frozen => .cells cs t frozen
  | o => o
noncomputable def laidWorld (os : Os) : World :=
  { World.holding Tryd.prog os ⟨#[], #[], []⟩ with heap := ((World.holding Tryd.prog os ⟨#[], #[], []⟩).heap.modify 1 (layTable tableFirst)).modify 2 (layTable tableAccept) }
end Go.Proofs.YtalepbkdakjhdaaDoor.E
