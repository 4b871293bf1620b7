-- Laid by wip/tools/cprint.py of this claim's own repo (over the kit's print).
import Derived.Test.YtnngbnhbmgdkoaaDoorSq
import Derived.Test.YtnngbnhbmgdkoaaDoorPx0
namespace Go.Proofs.YtnngbnhbmgdkoaaDoor.P
open Go.RowKit Go.Proofs.YtnngbnhbmgdkoaaDoor.E Go.Proofs.YtnngbnhbmgdkoaaDoorW.PrintWords Go.Proofs.YtnngbnhbmgdkoaaDoorW.PrintLast
set_option linter.unusedVariables false
set_option linter.unusedSimpArgs false

/-! ### cambistlaw19_few: function 9 -/
def cambistlaw19_few.l0 : Nat → List (S45) → Int → Option (Bool)
 | 0, _, _ => none
 | k + 1, x0, x3 => if x3 < (x0.length : Int) then (if 0 ≤ x3 then (if (((rd_T45 x0 x3).f3).length : Int) > 50 then (some false) else (if (((rd_T45 x0 x3).f2).size : Int) > 100 then (some false) else (cambistlaw19_few.l0 k x0 (wrap64 (x3 + 1))))) else (none)) else (some true)
def cambistlaw19_few.f (k : Nat) (l0 : List (S45)) : Option (Bool) := if (l0.length : Int) > 50 then (some false) else (cambistlaw19_few.l0 k l0 0)
theorem cambistlaw19_few.mono_l : ∀ k, (∀ y0 y1, LeO (cambistlaw19_few.l0 k y0 y1) (cambistlaw19_few.l0 (k + 1) y0 y1))
 | 0 => fun _ _ r h => by simp [cambistlaw19_few.l0] at h
 | k + 1 => by
  have ih0 := cambistlaw19_few.mono_l k
  ·intro y0 y1
   unfold cambistlaw19_few.l0
   repeat' first
   | (with_reducible exact ih0 _ _)
   | (with_reducible first | exact LeO.refl _ | exact LeO.none _ | refine LeO.ite ?_ ?_ | refine LeO.bind ?_ fun _ => ?_)
   | exact ih0 _ _
theorem cambistlaw19_few.mono : ∀ a0 k, LeO (cambistlaw19_few.f k a0) (cambistlaw19_few.f (k + 1) a0) := by
 intro a0 k
 have ih0 := cambistlaw19_few.mono_l k
 unfold cambistlaw19_few.f
 repeat' first
   | (with_reducible exact ih0 _ _)
   | (with_reducible first | exact LeO.refl _ | exact LeO.none _ | refine LeO.ite ?_ ?_ | refine LeO.bind ?_ fun _ => ?_)
   | exact ih0 _ _
set_option maxHeartbeats 8000000 in
set_option maxRecDepth 100000 in
theorem cambistlaw19_few.calls (k : Nat) (A0 : Option Addr) (c0 : Nat) (l0 : List (S45)) (r : Bool) (w : World) (hG : Glob w) (hr0 : Kd.C k45 w A0 l0.length l0) (hc0 : l0.length ≤ c0) (h : cambistlaw19_few.f k l0 = some r) :
  Calls Tryd.prog 9 #[.slice A0 l0.length c0] w fun e w' => e = .returned (.bool r) ∧ Drawn0 w w' := by
 have HG := a_ hG
 clear hG
 have HR0 := a_ hr0
 have HC0 := a_ hc0
 clear hr0 hc0
 have H : (if (l0.length : Int) > 50 then (some false) else (cambistlaw19_few.l0 k l0 0)) = some r := h
 clear h
 by_cases c2 : (l0.length : Int) > 50
 ·rw [if_pos c2] at H
  have c2b0 : decide (50 < (l0.length : Int)) = true := decide_eq_true c2
  have c2b1 : decide (50 < l0.length) = true := decide_eq_true (by omega)
  clear c2
  obtain rfl := Option.some.inj H
  go_enter Tryd.func9, Tryd.ntmps9
  go_wp2
  go_ret
  exact ⟨z68_, z65_⟩
 ·rw [if_neg c2] at H
  have c2b0 : decide (50 < (l0.length : Int)) = false := decide_eq_false c2
  have c2b1 : decide (50 < l0.length) = false := decide_eq_false (by omega)
  clear c2
  have H' := a_ H
  clear H
  go_enter Tryd.func9, Tryd.ntmps9
  go_wp2
  go_loopg [3] k (fun kq v3 w' => ∃ (x3_1 : Int), v3 = .int .i64 x3_1 ∧ Aside0 (cambistlaw19_few.l0 kq l0 x3_1 = some r) ∧ Aside0 (kq ≤ k) ∧ Drawn0 w w')
  case atStart => exact ⟨(0), z68_, H', ⟨Nat.le_refl _⟩, z65_⟩
  case round =>
   clear H'
   try clear c2
   try clear c2b0
   try clear c2b1
   try clear p2
   obtain ⟨x3_1, rfl, HA, HK1, ⟨m1, rfl⟩⟩ := hrel
   cases gk with
   | zero => exact absurd HA.out (by simp [cambistlaw19_few.l0])
   | succ k1 =>
    have H := HA.out
    clear HA
    simp only [cambistlaw19_few.l0] at H
    by_cases c3 : x3_1 < (l0.length : Int)
    ·rw [if_pos c3] at H
     have c3b0 : decide (x3_1 < (l0.length : Int)) = true := decide_eq_true c3
     clear c3
     by_cases c4 : 0 ≤ x3_1
     ·rw [if_pos c4] at H
      have c4b0 : decide (0 ≤ x3_1) = true := decide_eq_true c4
      clear c4
      by_cases c5 : (((rd_T45 l0 x3_1).f3).length : Int) > 50
      ·rw [if_pos c5] at H
       have c5b0 : decide (50 < (((rd_T45 l0 x3_1).f3).length : Int)) = true := decide_eq_true c5
       have c5b1 : decide (50 < ((rd_T45 l0 x3_1).f3).length) = true := decide_eq_true (by omega)
       clear c5
       obtain rfl := Option.some.inj H
       have p153 : 0 ≤ (x3_1 : Int) := of_decide_eq_true z67_
       have q153 : x3_1 < (l0.length : Int) := of_decide_eq_true z67_
       obtain ⟨ad153, A153_3, c153_3, e153, hx153_0, hx153_1, hx153_2, hx153_3, hl153_3, hi153_3⟩ := at_T45 HR0.out x3_1 p153 q153
       cases e153
       have HR153_3 := a_ hi153_3
       have HC153_3 := a_ hl153_3
       clear hi153_3 hl153_3
       replace p153 := eq_true p153
       replace q153 := eq_true q153
       go_wp2
       go_ret
       exact ⟨z68_, z65_⟩
      ·rw [if_neg c5] at H
       have c5b0 : decide (50 < (((rd_T45 l0 x3_1).f3).length : Int)) = false := decide_eq_false c5
       have c5b1 : decide (50 < ((rd_T45 l0 x3_1).f3).length) = false := decide_eq_false (by omega)
       clear c5
       by_cases c6 : (((rd_T45 l0 x3_1).f2).size : Int) > 100
       ·rw [if_pos c6] at H
        have c6b0 : decide (100 < (((rd_T45 l0 x3_1).f2).size : Int)) = true := decide_eq_true c6
        have c6b1 : decide (100 < ((rd_T45 l0 x3_1).f2).size) = true := decide_eq_true (by omega)
        clear c6
        obtain rfl := Option.some.inj H
        have p153 : 0 ≤ (x3_1 : Int) := of_decide_eq_true z67_
        have q153 : x3_1 < (l0.length : Int) := of_decide_eq_true z67_
        obtain ⟨ad153, A153_3, c153_3, e153, hx153_0, hx153_1, hx153_2, hx153_3, hl153_3, hi153_3⟩ := at_T45 HR0.out x3_1 p153 q153
        cases e153
        have HR153_3 := a_ hi153_3
        have HC153_3 := a_ hl153_3
        clear hi153_3 hl153_3
        replace p153 := eq_true p153
        replace q153 := eq_true q153
        have p154 : 0 ≤ (x3_1 : Int) := of_decide_eq_true z67_
        have q154 : x3_1 < (l0.length : Int) := of_decide_eq_true z67_
        obtain ⟨ad154, A154_3, c154_3, e154, hx154_0, hx154_1, hx154_2, hx154_3, hl154_3, hi154_3⟩ := at_T45 HR0.out x3_1 p154 q154
        obtain rfl : ad153 = ad154 := (by injection e154)
        have HR154_3 := a_ hi154_3
        have HC154_3 := a_ hl154_3
        clear hi154_3 hl154_3
        replace p154 := eq_true p154
        replace q154 := eq_true q154
        have ea_ := Option.some.inj (hx153_3.symm.trans hx154_3)
        injection ea_ with ea_ en_ ec_
        subst ea_
        subst ec_
        clear en_
        go_wp2
        go_ret
        exact ⟨z68_, z65_⟩
       ·rw [if_neg c6] at H
        have c6b0 : decide (100 < (((rd_T45 l0 x3_1).f2).size : Int)) = false := decide_eq_false c6
        have c6b1 : decide (100 < ((rd_T45 l0 x3_1).f2).size) = false := decide_eq_false (by omega)
        clear c6
        have H' := a_ H
        clear H
        have p153 : 0 ≤ (x3_1 : Int) := of_decide_eq_true z67_
        have q153 : x3_1 < (l0.length : Int) := of_decide_eq_true z67_
        obtain ⟨ad153, A153_3, c153_3, e153, hx153_0, hx153_1, hx153_2, hx153_3, hl153_3, hi153_3⟩ := at_T45 HR0.out x3_1 p153 q153
        cases e153
        have HR153_3 := a_ hi153_3
        have HC153_3 := a_ hl153_3
        clear hi153_3 hl153_3
        replace p153 := eq_true p153
        replace q153 := eq_true q153
        have p154 : 0 ≤ (x3_1 : Int) := of_decide_eq_true z67_
        have q154 : x3_1 < (l0.length : Int) := of_decide_eq_true z67_
        obtain ⟨ad154, A154_3, c154_3, e154, hx154_0, hx154_1, hx154_2, hx154_3, hl154_3, hi154_3⟩ := at_T45 HR0.out x3_1 p154 q154
        obtain rfl : ad153 = ad154 := (by injection e154)
        have HR154_3 := a_ hi154_3
        have HC154_3 := a_ hl154_3
        clear hi154_3 hl154_3
        replace p154 := eq_true p154
        replace q154 := eq_true q154
        have ea_ := Option.some.inj (hx153_3.symm.trans hx154_3)
        injection ea_ with ea_ en_ ec_
        subst ea_
        subst ec_
        clear en_
        go_wp2
        go_roundg k1
        case measure => have := HK1.out; omega
        case rel => exact ⟨(wrap64 (x3_1 + 1)), z68_, H', ⟨by have := HK1.out; omega⟩, z65_⟩
     ·rw [if_neg c4] at H
      exact absurd H (by simp)
    ·rw [if_neg c3] at H
     have c3b0 : decide (x3_1 < (l0.length : Int)) = false := decide_eq_false c3
     clear c3
     obtain rfl := Option.some.inj H
     go_wp2
     go_ret
     exact ⟨z68_, z65_⟩

/-! ### cambistref01_Add: function 50 -/
def cambistref01_Add.f (a0 : Int) (a1 : Int) : Option (Int × Int) := if a1 > 0 then (if a0 > (wrap64 (9223372036854775807 - a1)) then (some (0, 10)) else (if a1 < 0 then (if a0 < (wrap64 ((-9223372036854775808) - a1)) then (some (0, 10)) else (some (wrap64 (a0 + a1), 0))) else (some (wrap64 (a0 + a1), 0)))) else (if a1 < 0 then (if a0 < (wrap64 ((-9223372036854775808) - a1)) then (some (0, 10)) else (some (wrap64 (a0 + a1), 0))) else (some (wrap64 (a0 + a1), 0)))
set_option maxHeartbeats 8000000 in
set_option maxRecDepth 100000 in
theorem cambistref01_Add.calls (a0 : Int) (a1 : Int) (r1 : Int) (r2 : Int) (w : World) (hG : Glob w) (h : cambistref01_Add.f a0 a1 = some (r1, r2)) :
  Calls Tryd.prog 50 #[.int .i64 a0, .int .i64 a1] w fun e w' => e = .returned (.tuple #[.int .i64 r1, .int .i64 r2]) ∧ Drawn0 w w' := by
 have HG := a_ hG
 clear hG
 have H : (if a1 > 0 then (if a0 > (wrap64 (9223372036854775807 - a1)) then (some (0, 10)) else (if a1 < 0 then (if a0 < (wrap64 ((-9223372036854775808) - a1)) then (some (0, 10)) else (some (wrap64 (a0 + a1), 0))) else (some (wrap64 (a0 + a1), 0)))) else (if a1 < 0 then (if a0 < (wrap64 ((-9223372036854775808) - a1)) then (some (0, 10)) else (some (wrap64 (a0 + a1), 0))) else (some (wrap64 (a0 + a1), 0)))) = some (r1, r2) := h
 clear h
 by_cases c3 : a1 > 0
 ·rw [if_pos c3] at H
  have c3b0 : decide (0 < a1) = true := decide_eq_true c3
  clear c3
  by_cases c4 : a0 > (wrap64 (9223372036854775807 - a1))
  ·rw [if_pos c4] at H
   have c4b0 : decide ((wrap64 (9223372036854775807 - a1)) < a0) = true := decide_eq_true c4
   clear c4
   simp only [Option.some.injEq, Prod.mk.injEq] at H
   obtain ⟨rfl, rfl⟩ := H
   go_enter Tryd.func50, Tryd.ntmps50
   go_wp2
   go_ret2
   exact ⟨z68_, z65_⟩
  ·rw [if_neg c4] at H
   have c4b0 : decide ((wrap64 (9223372036854775807 - a1)) < a0) = false := decide_eq_false c4
   clear c4
   by_cases c5 : a1 < 0
   ·rw [if_pos c5] at H
    have c5b0 : decide (a1 < 0) = true := decide_eq_true c5
    clear c5
    by_cases c6 : a0 < (wrap64 ((-9223372036854775808) - a1))
    ·rw [if_pos c6] at H
     have c6b0 : decide (a0 < (wrap64 ((-9223372036854775808) - a1))) = true := decide_eq_true c6
     clear c6
     simp only [Option.some.injEq, Prod.mk.injEq] at H
     obtain ⟨rfl, rfl⟩ := H
     go_enter Tryd.func50, Tryd.ntmps50
     go_wp2
     go_ret2
     exact ⟨z68_, z65_⟩
    ·rw [if_neg c6] at H
     have c6b0 : decide (a0 < (wrap64 ((-9223372036854775808) - a1))) = false := decide_eq_false c6
     clear c6
     simp only [Option.some.injEq, Prod.mk.injEq] at H
     obtain ⟨rfl, rfl⟩ := H
     go_enter Tryd.func50, Tryd.ntmps50
     go_wp2
     go_ret2
     exact ⟨z68_, z65_⟩
   ·rw [if_neg c5] at H
    have c5b0 : decide (a1 < 0) = false := decide_eq_false c5
    clear c5
    simp only [Option.some.injEq, Prod.mk.injEq] at H
    obtain ⟨rfl, rfl⟩ := H
    go_enter Tryd.func50, Tryd.ntmps50
    go_wp2
    go_ret2
    exact ⟨z68_, z65_⟩
 ·rw [if_neg c3] at H
  have c3b0 : decide (0 < a1) = false := decide_eq_false c3
  clear c3
  by_cases c7 : a1 < 0
  ·rw [if_pos c7] at H
   have c7b0 : decide (a1 < 0) = true := decide_eq_true c7
   clear c7
   by_cases c8 : a0 < (wrap64 ((-9223372036854775808) - a1))
   ·rw [if_pos c8] at H
    have c8b0 : decide (a0 < (wrap64 ((-9223372036854775808) - a1))) = true := decide_eq_true c8
    clear c8
    simp only [Option.some.injEq, Prod.mk.injEq] at H
    obtain ⟨rfl, rfl⟩ := H
    go_enter Tryd.func50, Tryd.ntmps50
    go_wp2
    go_ret2
    exact ⟨z68_, z65_⟩
   ·rw [if_neg c8] at H
    have c8b0 : decide (a0 < (wrap64 ((-9223372036854775808) - a1))) = false := decide_eq_false c8
    clear c8
    simp only [Option.some.injEq, Prod.mk.injEq] at H
    obtain ⟨rfl, rfl⟩ := H
    go_enter Tryd.func50, Tryd.ntmps50
    go_wp2
    go_ret2
    exact ⟨z68_, z65_⟩
  ·rw [if_neg c7] at H
   have c7b0 : decide (a1 < 0) = false := decide_eq_false c7
   clear c7
   simp only [Option.some.injEq, Prod.mk.injEq] at H
   obtain ⟨rfl, rfl⟩ := H
   go_enter Tryd.func50, Tryd.ntmps50
   go_wp2
   go_ret2
   exact ⟨z68_, z65_⟩

end Go.Proofs.YtnngbnhbmgdkoaaDoor.P
