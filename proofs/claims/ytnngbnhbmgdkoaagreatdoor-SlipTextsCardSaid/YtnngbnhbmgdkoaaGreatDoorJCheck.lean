/- A few steps of regions that draw their order; legs that are read. -/
import Derived.Test.YtnngbnhbmgdkoaaGreatDoorJPure
import Derived.Test.YtnngbnhbmgdkoaaGreatDoorSum
import Derived.Test.YtnngbnhbmgdkoaaGreatDoorNames
import Derived.Test.YtnngbnhbmgdkoaaGreatDoorWTab
import Derived.Test.YtnngbnhbmgdkoaaGreatDoorPx2
import Derived.Maps.OwnRows
import Derived.Maps.GroupsBeside
import Derived.Maps.RangeWalk
import Derived.Maps.Views
import Derived.WalkArith
import Derived.Lib.Hide
namespace Go.Proofs.YtnngbnhbmgdkoaaGreatDoor.E
open Go.RowKit Go.Proofs.YtnngbnhbmgdkoaaGreatDoor.P Go.Proofs.YtnngbnhbmgdkoaaGreatDoorW.PrintWords Go.Proofs.YtnngbnhbmgdkoaaGreatDoorW.PrintLast
theorem info_i : (Tryz.prog.info? 2).map (fun i => (i.zero, i.size, i.bytes)) = some (some (.int .i64 0), 1, 8) := by kernel_rfl
theorem wf_64 {x : Int} (h : in64 x) : (Lit.int .i64 x).wf = true := WalkArith.wf_i64 h
section
variable {P : Program} {ops : Array Oper} {o : Oper} {a : Act} {Q : Exit → Act → World → Prop} {Kc : Act → World → Prop}
theorem lit_step {W : World} {e n : Nat} {inner : Array Value} (hw : Region.wanted o (yielded ops a.tmps) = true)
    (hrun : (execOp a.eval o).run P W = .ok (.value (.slice (some ⟨W.heap.size, 0, none⟩) n n)) (W.alloc (.cells inner e)))
    (h : Kc (a.put o.dst (.slice (some ⟨W.heap.size, 0, none⟩) n n)) (W.alloc (.cells inner e))) : if Region.wanted o (yielded ops a.tmps) = true then Oper.wp P o a W Kc Q else Kc (a.put o.dst undef) W :=
  event_step hw hrun h
theorem append_int_step {W : World} {base : Nat} {v : Value} {zs : List Int} {x : Int} {ad : Addr} (hw : Region.wanted o (yielded ops a.tmps) = true) (so xo : Operand) {t e : TypeId} (ho : o.op = .call { callee := .builtin .append, args := #[so, xo], argTypes := #[t, t] })
    (ht : P.underlying t = some (.slice e)) (hinfo : (P.info? e).map (fun i => (i.zero, i.size, i.bytes)) = some (some (.int .i64 0), 1, 8)) (hs : a.eval so = v) (hx : a.eval xo = .slice (some ad) 1 1) (hc : ∀ j u, [Value.int .i64 x][j]? = some u → W.cell? (ad.add j) = some u)
    (HO : W.ownsInts base e .i64 v zs) (hxw : (Lit.int .i64 x).wf = true) (hl : zs.length ≤ 1048576) (hbase : base ≤ W.heap.size)
    (h : ∀ v1 w1, w1.ownsInts base e .i64 v1 (zs ++ [x]) → W.grownBy w1 v.ownBlock → (v1.ownBlock = v.ownBlock ∨ v1.ownBlock = some W.heap.size) → Kc (a.put o.dst v1) w1) :
    if Region.wanted o (yielded ops a.tmps) = true then Oper.wp P o a W Kc Q else Kc (a.put o.dst undef) W := by
  obtain ⟨i0, hi, hzz⟩ := Option.map_eq_some_iff.1 hinfo
  simp only [Prod.mk.injEq] at hzz
  obtain ⟨hz0, hz1, hz2⟩ := hzz
  rw [if_pos hw]
  obtain ⟨v1, w1, hr, hown, hg, _, hat⟩ := run_append_own_at (P := P) W base t o.type e i0 (.int .i64 0) 1 8 ht hi hz0 hz1 hz2 rfl (by decide) v zs.length _ HO.1 ad 1 1 [.int .i64 x] rfl hc (by simp [Value.oneCell']) (by unfold maxLen; omega) (by omega) hbase
  unfold Oper.wp execOp
  simp only [ho, resolve, invoke, builtin, Sem.run_bind, Sem.run_pure, Result.andThen_ok, List.map_toArray, List.map_cons, List.map_nil, hs, hx, hr]
  exact h v1 w1 (HO.appended hown hxw) hg hat
theorem look_step {W : World} (hw : Region.wanted o (yielded ops a.tmps) = true) {t : TypeId} {m x : Operand} (ho : o.op = .lookup t m x false) {b : Nat} {key v : Value} (hm : a.eval m = .map (some b)) (hx : a.eval x = key)
    (hrun : (Instr.lookup t (.map (some b)) key false).run P W = .ok v W) (h : Kc (a.put o.dst v) W) : if Region.wanted o (yielded ops a.tmps) = true then Oper.wp P o a W Kc Q else Kc (a.put o.dst undef) W :=
  event_step hw (w1 := W) (by simp [execOp, ho, hm, hx, hrun, Result.andThen]) h
theorem mapup_step {W w2 : World} (hw : Region.wanted o (yielded ops a.tmps) = true) (hN : o.dst = none) {t : TypeId} {m x y : Operand} (ho : o.op = .mapUpdate t m x y) {b : Nat} {key v : Value} (hm : a.eval m = .map (some b)) (hx : a.eval x = key) (hy : a.eval y = v)
    (hrun : (Instr.mapUpdate t (.map (some b)) key v).run P W = .ok () w2) (h : Kc a w2) : if Region.wanted o (yielded ops a.tmps) = true then Oper.wp P o a W Kc Q else Kc (a.put none undef) W :=
  skip_ hw hN (by simp [execOp, ho, hm, hx, hy, hrun]) h
end
theorem blk_not_own {W : World} {gb t base e : Nat} {cs : Array Value} {v : Value} {zs : List Int} (h : W.heap[gb]? = some (.cells cs t (0, 0))) (ho : W.ownsInts base e .i64 v zs) (ht : t ≠ e) : some gb ≠ v.ownBlock := by
  intro e1
  obtain ⟨cells, hc⟩ := own_typed ho.1 gb e1.symm
  rw [h] at hc
  injection hc with hc
  injection hc with _ h2 _
  exact ht h2
theorem leg_cells {W : World} {gb t : Nat} {a b : ByteArray} {c : Int} (h : W.heap[gb]? = some (.cells #[.string a, .string b, .int .i64 c] t (0, 0))) : W.cell? ⟨gb, 0, none⟩ = some (.string a) ∧ W.cell? ⟨gb, 1, none⟩ = some (.string b) ∧ W.cell? ⟨gb, 2, none⟩ = some (.int .i64 c) :=
  ⟨(blk_cell h 0).trans rfl, (blk_cell h 1).trans rfl, (blk_cell h 2).trans rfl⟩
theorem legs_get {w : World} {A : Option Addr} {l : List Leg_} (h : Kd.C k40 w A l.length l) (k : Nat) (hk : k < l.length) :
    ∃ ad, A = some ad ∧ w.cell? (ad.add (k * 3)) = some (.string (l.getD k ⟨⟨#[]⟩, ⟨#[]⟩, 0⟩).f0) ∧ w.cell? ⟨(ad.add (k * 3)).block, (ad.add (k * 3)).off + 1, none⟩ = some (.string (l.getD k ⟨⟨#[]⟩, ⟨#[]⟩, 0⟩).f1) ∧ w.cell? ⟨(ad.add (k * 3)).block, (ad.add (k * 3)).off + 2, none⟩ = some (.int .i64 (l.getD k ⟨⟨#[]⟩, ⟨#[]⟩, 0⟩).f2) := by
  obtain ⟨ad, e, h0, h1, h2⟩ := at_T40 h (k : Int) (by omega) (by omega)
  exact ⟨ad, e, h0, h1, h2⟩
theorem ret_chk {a b : Int} (h : a = b) : Ending.returned (.int .i64 a) = .returned (.int .i64 b) := by rw [h]
end Go.Proofs.YtnngbnhbmgdkoaaGreatDoor.E
