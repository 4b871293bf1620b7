/- A statement is the same as itself. -/
import Derived.Test.YtnngbnhbmgdkoaaDoorSPlain
import Derived.Test.YtnngbnhbmgdkoaaDoorPx3
namespace Go.Proofs.YtnngbnhbmgdkoaaDoor.E
open Go.RowKit Go.Proofs.YtnngbnhbmgdkoaaDoor.P Go.Proofs.YtnngbnhbmgdkoaaDoorW.PrintWords Go.Proofs.YtnngbnhbmgdkoaaDoorW.PrintLast
theorem same_loop (who asset : ByteArray) (day op : Int) (ls : List Row_) (cl : Int) (hl : ls.length ≤ 1000000) : ∀ (m i : Nat), ls.length - i = m → i ≤ ls.length → Ev (fun k => cambistref19_Same.l0 k (i : Int) who asset day op ls cl who asset day op ls cl) true := by
  intro m
  induction m with
  | zero =>
    intro i hm hi
    obtain rfl : i = ls.length := by omega
    refine ev_succ ?_
    simp only [cambistref19_Same.l0]
    exact ev_neg (by omega) (ev_some rfl)
  | succ m ih =>
    intro i hm hi
    refine ev_succ ?_
    simp only [cambistref19_Same.l0]
    rw [wrap_sm hi hl]
    exact ev_pos (by omega) (ev_pos (by omega) (ev_pos (by omega) (ev_neg (by simp) (ih (i + 1) (by omega) (by omega)))))
theorem same_ev (who asset : ByteArray) (day op : Int) (ls : List Row_) (cl : Int) (hl : ls.length ≤ 1000000) : Ev (fun k => cambistref19_Same.f k who asset day op ls cl who asset day op ls cl) true := by
  unfold cambistref19_Same.f
  refine ev_pos rfl (ev_pos rfl (ev_pos rfl (ev_pos rfl (ev_pos rfl ?_))))
  have e : ((ls.length : Int) != (ls.length : Int)) = false := by simp
  rw [e]
  refine ev_succ ?_
  simp only [cambistref19_Same.j0]
  exact ev_neg (by decide) (same_loop who asset day op ls cl hl _ 0 rfl (by omega))
end Go.Proofs.YtnngbnhbmgdkoaaDoor.E
