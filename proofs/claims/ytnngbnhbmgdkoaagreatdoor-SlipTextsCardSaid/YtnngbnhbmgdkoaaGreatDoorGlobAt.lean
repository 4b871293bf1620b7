/- What a row's first world gives of package variables; and the rows' witness: the world that the program's own laying leaves. -/
import Derived.Test.YtnngbnhbmgdkoaaGreatDoorGlob
import Derived.Test.YtnngbnhbmgdkoaaGreatDoorRows
import Derived.Shelf.Vars
import Derived.LaidLaws
import Derived.LaidMore
import Derived.Lib.LaidTab
namespace Go.Proofs.YtnngbnhbmgdkoaaGreatDoor.E
open Go.RowKit
theorem reads_of {P : Program} {w : World} : ∀ {l : List (String × DataW Unit)} {ps : List MemPlace}, DataW.LaidVars P w l ps → ∀ n d, (n, d) ∈ l →
    ∃ g t cs fuel p, P.globalNamed n = some g ∧ (P.globals[g]?).map (·.type) = some t ∧ w.var? P n = some cs ∧ DataW.trod (fun _ => ()) P w 0 (fun _ => true) false fuel t cs.toList = some (d, p)
  | [], _, _, _, _, hm => by cases hm
  | (n', d') :: r, ps, h, n, d, hm => by
    obtain ⟨g, t, cs, fuel, p, q, h1, h2, h3, h4, h5, _⟩ := h
    rcases List.mem_cons.1 hm with e | e
    · cases e
      exact ⟨g, t, cs, fuel, p, h1, h2, h3, h4⟩
    · exact reads_of h5 n d e
theorem iface_at {P : Program} {W : World} {l : List (String × DataW Unit)} {n nm : String} {d : DataW Unit} {g : Nat} {ti : TypeId} {ms : Array (String × TypeId)} (hg : P.globalNamed n = some g) (ht : (P.globals[g]?).map (·.type) = some ti) (hi : P.underlying ti = some (.interface ms))
    (h : laidMet P l W) (hm : (n, DataW.iface nm d) ∈ l) : ∃ te pe, W.cell? ⟨g, 0, none⟩ = some (.iface te pe) := by
  obtain ⟨ps, hv, _⟩ := h
  obtain ⟨g', t', cs, fuel, p, h1, h2, h3, h4⟩ := reads_of hv _ _ hm
  obtain rfl := Option.some.inj (hg.symm.trans h1)
  obtain rfl := Option.some.inj (ht.symm.trans h2)
  obtain ⟨_, u, v, hcs, _, _⟩ := iface_of_trod hi h4
  refine ⟨u, v, ?_⟩
  have := World.var?_cell h1 h3 0
  rw [Array.eq_one_of_toList hcs] at this
  simpa using this
theorem tab_at {P : Program} {W : World} {l : List (String × DataW Unit)} {n : String} {k : IntKind} {zs : List Int} {g m : Nat} {t e : TypeId} (hg : P.globalNamed n = some g) (hty : (P.globals[g]?).map (·.type) = some t) (ht : P.underlying t = some (.array m e)) (he : P.underlying e = some (.int k)) (hce : P.cellsOf e = 1) (hct : P.cellsOf t = m)
    (h : laidMet P l W) (hm : (n, Lib.tabData k zs) ∈ l) : Lib.TabIs P W n k zs := by
  obtain ⟨ps, hv, _⟩ := h
  obtain ⟨g', t', cs, fuel, p, h1, h2, h3, h4⟩ := reads_of hv _ _ hm
  obtain rfl := Option.some.inj (hg.symm.trans h1)
  obtain rfl := Option.some.inj (hty.symm.trans h2)
  unfold Lib.TabIs
  rw [h3, ← Lib.cells_of_tab ht he hce hct h4]
def tableFirst : Array Value := (Go.Pinned.utf8FirstZ.map fun (n : Nat) => Value.int .u8 (n : Int)).toArray
def layTable (cs : Array Value) : Obj → Obj
  | .cells _ t frozen => .cells cs t frozen
  | o => o
noncomputable def laidWorld (os : Os) : World := { World.doorLaid Tryz.prog 400 os with heap := (World.doorLaid Tryz.prog 400 os).heap.modify 4 (layTable tableFirst) }
theorem glob_of {W : World} (h : W.ShapedOpen Tryz.prog) (hL : laidMetH Tryz.prog Rows.slipTextsRow.laid W) : Glob W where
  max := Go.Proofs.cell_of_shapedOpen_int (zero := #[.int .i64 0]) (t := 3) h (of_decide_eq_true (by kernel_rfl)) (by kernel_rfl) rfl (by kernel_rfl) (by kernel_rfl) Tryz.underlying3
  pow := tab_at (g := 0) (t := 110) (e := 22) (m := 20) (by kernel_rfl) (by kernel_rfl) Tryz.underlying110 Tryz.underlying22 (by kernel_rfl) (by kernel_rfl) hL (.tail _ (.tail _ (.head _)))
  syn := iface_at (g := 6) (ti := 53) (by kernel_rfl) (by kernel_rfl) Tryz.underlying53 hL (.tail _ (.tail _ (.tail _ (.tail _ (.tail _ (.head _))))))
  rng := iface_at (g := 7) (ti := 53) (by kernel_rfl) (by kernel_rfl) Tryz.underlying53 hL (.tail _ (.tail _ (.tail _ (.tail _ (.head _)))))
end Go.Proofs.YtnngbnhbmgdkoaaGreatDoor.E
