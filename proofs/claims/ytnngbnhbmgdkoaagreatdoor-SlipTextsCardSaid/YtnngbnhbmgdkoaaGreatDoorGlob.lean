/- What the walks know of package-level variables: which cells hold what, or something of their kind. -/
import Derived.Below
import Derived.Lib.LaidTab
import Derived.Shelf.Strconv.Itoa4
import Derived.Test.YtnngbnhbmgdkoaaGreatDoorWWords
import Derived.Test.YtnngbnhbmgdkoaaGreatDoorProg
namespace Go.Proofs.YtnngbnhbmgdkoaaGreatDoor.E
open Go.RowKit
/-- The cells of the variables that this seat's code reads hold what they are read as. -/
structure Glob (w : World) : Prop where
 max : ∃ m : Int, w.cell? ⟨1, 0, none⟩ = some (.int .i64 m)
 pow : Lib.TabIs Tryz.prog w "internal/strconv.uint64pow10" .u64 Lib.pow10Tab
 syn : ∃ te pe, w.cell? ⟨6, 0, none⟩ = some (.iface te pe)
 rng : ∃ te pe, w.cell? ⟨7, 0, none⟩ = some (.iface te pe)
theorem cell_below {w w' : World} {a : Addr} {v : Value} (hb : Below w.heap.size w w') (h : w.cell? a = some v) : w'.cell? a = some v := (hb.cell (World.block_lt_of_cell? w _ h)).trans h
theorem var_below {P : Program} {w w' : World} {n : String} {cs : Array Value} (hb : Below w.heap.size w w') (h : w.var? P n = some cs) : w'.var? P n = some cs := by
  unfold World.var? at h ⊢
  cases hg : P.globalNamed n with
  | none => simp [hg] at h
  | some g =>
    simp only [hg, Option.bind_some] at h ⊢
    have hlt : g < w.heap.size := by
      rcases Nat.lt_or_ge g w.heap.size with h' | h'
      · exact h'
      · simp [Array.getElem?_eq_none h'] at h
    rw [hb.block g hlt]
    exact h
theorem Glob.below {w w' : World} (h : Glob w) (hb : Below w.heap.size w w') : Glob w' where
 max := by obtain ⟨m, hm⟩ := h.max; exact ⟨m, cell_below hb hm⟩
 pow := var_below hb h.pow
 syn := by obtain ⟨te, pe, hm⟩ := h.syn; exact ⟨te, pe, cell_below hb hm⟩
 rng := by obtain ⟨te, pe, hm⟩ := h.rng; exact ⟨te, pe, cell_below hb hm⟩
/-- n flags, as the bits of a number. -/
def fl_ (n m : Nat) : Array Bool := ((List.range n).map fun i => Nat.testBit m i).toArray
theorem Glob.drew {w : World} (h : Glob w) : Glob w.drew := h.below (Below.refl _ _).drew
theorem Glob.drewN {w : World} (h : Glob w) (n : Nat) : Glob (w.drewN n) := h.below ⟨rfl, rfl, rfl, Nat.le_refl _, fun _ _ => rfl⟩
end Go.Proofs.YtnngbnhbmgdkoaaGreatDoor.E
