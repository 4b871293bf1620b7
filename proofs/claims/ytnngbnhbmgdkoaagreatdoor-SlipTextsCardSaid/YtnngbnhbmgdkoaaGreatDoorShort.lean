/- Short names, for texts that would be too long. -/
import Derived.Test.YtnngbnhbmgdkoaaGreatDoorWWords
import Derived.Test.YtnngbnhbmgdkoaaGreatDoorWLast
namespace Go.Proofs.YtnngbnhbmgdkoaaGreatDoor.E
open Go.RowKit Go.Proofs.YtnngbnhbmgdkoaaGreatDoorW.PrintWords Go.Proofs.YtnngbnhbmgdkoaaGreatDoorW.PrintLast
theorem named2_ {α β : Type} {y e : α} {f : α → Option β} {r : β} (hy : y = e) (h : (some e).bind f = some r) : f y = some r := by subst hy; exact h
theorem a_ {p : Prop} (h : p) : Aside0 p := ⟨h⟩
theorem sT_ {α : Type} {l : List α} {i : Nat} {a : α} : (l.toArray).setIfInBounds i a = (l.set i a).toArray := List.setIfInBounds_toArray ..
theorem s0_ {α : Type} {x : α} {xs : List α} {a : α} : (x :: xs).set 0 a = a :: xs := List.set_cons_zero ..
theorem sS_ {α : Type} {x : α} {xs : List α} {i : Nat} {a : α} : (x :: xs).set (i + 1) a = x :: xs.set i a := List.set_cons_succ ..
theorem kN_ {w : World} {g : Nat} {o : Obj} (h : w.heap[g]? = some o) (n : Nat) : (w.drewN n).heap[g]? = some o := h
theorem kD_ {w : World} {g : Nat} {o : Obj} (h : w.heap[g]? = some o) : w.drew.heap[g]? = some o := h
theorem kA_ {w : World} {g : Nat} {o : Obj} (h : w.heap[g]? = some o) (o' : Obj) : (w.alloc o').heap[g]? = some o := blk_alloc h o'
theorem bA_ {w W : World} (h : Below w.heap.size w W) (o : Obj) : Below w.heap.size w (W.alloc o) := below_alloc h o
theorem bN_ {B : Nat} {w W : World} (h : Below B w W) (n : Nat) : Below B w (W.drewN n) := pw_below_drewN h n
theorem b1_ {w W : World} (h : Below w.heap.size w W) : Below w.heap.size w W.drew := below_drew1 h
theorem bS_ {w W : World} {g j : Nat} {v : Value} (h : Below w.heap.size w W) (hg : w.heap.size ≤ g) : Below w.heap.size w (W.setCell ⟨g, j, none⟩ v) := below_set h hg
end Go.Proofs.YtnngbnhbmgdkoaaGreatDoor.E
