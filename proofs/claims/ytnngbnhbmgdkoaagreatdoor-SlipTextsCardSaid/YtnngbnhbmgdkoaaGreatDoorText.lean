/- The walk of coin.Text. -/
import Derived.Test.YtnngbnhbmgdkoaaGreatDoorGlob
import Derived.Test.YtnngbnhbmgdkoaaGreatDoorNumText
import Derived.Test.YtnngbnhbmgdkoaaGreatDoorShelf
import Derived.Test.YtnngbnhbmgdkoaaGreatDoorWWords
import Derived.Test.YtnngbnhbmgdkoaaGreatDoorWLast
import Derived.WalkKit
import Derived.Lib.Hide
namespace Go.Proofs.YtnngbnhbmgdkoaaGreatDoor.E
open Go.RowKit Go.Proofs.YtnngbnhbmgdkoaaGreatDoorW.PrintWords Go.Proofs.YtnngbnhbmgdkoaaGreatDoorW.PrintLast
theorem below_grow (w : World) (k : Nat) (os : Array Obj) : Below w.heap.size w (Go.Sort.grow (w.drewN k) os) :=
  ⟨rfl, rfl, rfl, by simp [Go.Sort.grow], fun i hi => by
    show (w.heap ++ os)[i]? = w.heap[i]?
    rw [Array.getElem?_append_left hi]⟩
set_option maxHeartbeats 1000000 in
theorem coin_Text.calls (a0 : Int) (r : ByteArray) (w : World) (hG : Glob w) (h : coin_Text.f a0 = some r) :
    Calls Tryz.prog 19 #[.int .i64 a0] w fun e w' => e = .returned (.string r) ∧ Below w.heap.size w w' := by
  unfold coin_Text.f at h
  split at h
  case isFalse => cases h
  rename_i hb
  obtain rfl := Option.some.inj h
  have hc : Calls Tryz.prog 44 #[.int .i64 a0, .int .i64 10] w fun e w' => e = .returned (.string ⟨(intText a0).toArray⟩) ∧ Below w.heap.size w w' := by
    refine (Tryz.strconv_FormatInt_10 a0 hb.1 hb.2 w hG.pow).mono ?_
    rintro e w' ⟨rfl, k, os, rfl⟩
    rw [intText_itoa hb]
    exact ⟨rfl, below_grow _ _ _⟩
  have HC := Lib.hid hc
  clear hc hb hG
  go_enter Tryz.func19, Tryz.ntmps19
  go_wp2_with (go_at_call 44; refine (HC.out).mono ?_; rintro e w' ⟨rfl, hb⟩)
  go_ret
  exact ⟨rfl, hb⟩
end Go.Proofs.YtnngbnhbmgdkoaaGreatDoor.E
