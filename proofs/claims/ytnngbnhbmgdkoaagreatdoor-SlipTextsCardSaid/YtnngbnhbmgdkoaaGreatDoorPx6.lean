-- Laid by wip/tools/cprint.py of this claim's own repo (over the kit's print).
import Derived.Test.YtnngbnhbmgdkoaaGreatDoorSq
import Derived.Test.YtnngbnhbmgdkoaaGreatDoorPx0
import Derived.Test.YtnngbnhbmgdkoaaGreatDoorPx4
import Derived.Test.YtnngbnhbmgdkoaaGreatDoorPx5
namespace Go.Proofs.YtnngbnhbmgdkoaaGreatDoor.P
open Go.RowKit Go.Proofs.YtnngbnhbmgdkoaaGreatDoor.E Go.Proofs.YtnngbnhbmgdkoaaGreatDoorW.PrintWords Go.Proofs.YtnngbnhbmgdkoaaGreatDoorW.PrintLast
set_option linter.unusedVariables false
set_option linter.unusedSimpArgs false

/-! ### cambistref02_part: function 56 -/
def cambistref02_part.l0 : Nat → ByteArray → Int → Int → Option (Bool)
 | 0, _, _, _ => none
 | k + 1, x0, x1, x5 => if x5 < (x0.size : Int) then (if 0 ≤ x5 then ((cambistref02_within.f (bt x0 x5) 97 122).bind fun t189 => (if t189 = true then (cambistref02_part.l0 k x0 x1 (wrap64 (x5 + 1))) else ((cambistref02_within.f (bt x0 x5) 65 90).bind fun t190 => (if t190 = true then (cambistref02_part.l0 k x0 x1 (wrap64 (x5 + 1))) else ((cambistref02_within.f (bt x0 x5) 48 57).bind fun t191 => (if t191 = true then (cambistref02_part.l0 k x0 x1 (wrap64 (x5 + 1))) else (if ((bt x0 x5) = 45) then (cambistref02_part.l0 k x0 x1 (wrap64 (x5 + 1))) else (some false)))))))) else (none)) else (if (x0.size : Int) ≥ 1 then (some (decide ((x0.size : Int) ≤ x1))) else (some false))
def cambistref02_part.f (k : Nat) (a0 : ByteArray) (a1 : Int) : Option (Bool) := cambistref02_part.l0 k a0 a1 0
theorem cambistref02_part.mono_l : ∀ k, (∀ y0 y1 y2, LeO (cambistref02_part.l0 k y0 y1 y2) (cambistref02_part.l0 (k + 1) y0 y1 y2))
 | 0 => fun _ _ _ r h => by simp [cambistref02_part.l0] at h
 | k + 1 => by
  have ih0 := cambistref02_part.mono_l k
  ·intro y0 y1 y2
   unfold cambistref02_part.l0
   repeat' first
   | (with_reducible exact ih0 _ _ _)
   | (with_reducible first | exact LeO.refl _ | exact LeO.none _ | refine LeO.ite ?_ ?_ | refine LeO.bind ?_ fun _ => ?_)
   | exact ih0 _ _ _
theorem cambistref02_part.mono : ∀ a0 a1 k, LeO (cambistref02_part.f k a0 a1) (cambistref02_part.f (k + 1) a0 a1) := by
 intro a0 a1 k
 have ih0 := cambistref02_part.mono_l k
 unfold cambistref02_part.f
 repeat' first
   | (with_reducible exact ih0 _ _ _)
   | (with_reducible first | exact LeO.refl _ | exact LeO.none _ | refine LeO.ite ?_ ?_ | refine LeO.bind ?_ fun _ => ?_)
   | exact ih0 _ _ _
set_option maxHeartbeats 8000000 in
set_option maxRecDepth 100000 in
theorem cambistref02_part.calls (k : Nat) (a0 : ByteArray) (a1 : Int) (r : Bool) (w : World) (hG : Glob w) (h : cambistref02_part.f k a0 a1 = some r) :
  Calls Tryz.prog 56 #[.string a0, .int .i64 a1] w fun e w' => e = .returned (.bool r) ∧ Drawn0 w w' := by
 have HG := a_ hG
 clear hG
 have H : (cambistref02_part.l0 k a0 a1 0) = some r := h
 clear h
 have H' := a_ H
 clear H
 go_enter Tryz.func56, Tryz.ntmps56
 go_wp2
 go_loopg [5] k (fun kq v5 w' => ∃ (x5_1 : Int), v5 = .int .i64 x5_1 ∧ Aside0 (cambistref02_part.l0 kq a0 a1 x5_1 = some r) ∧ Aside0 (kq ≤ k) ∧ Drawn0 w w')
 case atStart => exact ⟨(0), z80_, H', ⟨Nat.le_refl _⟩, z78_⟩
 case round =>
  clear H'
  try clear p2
  obtain ⟨x5_1, rfl, HA, HK1, ⟨m1, rfl⟩⟩ := hrel
  cases gk with
  | zero => exact absurd HA.out (by simp [cambistref02_part.l0])
  | succ k1 =>
   have H := HA.out
   clear HA
   simp only [cambistref02_part.l0] at H
   by_cases c3 : x5_1 < (a0.size : Int)
   ·rw [if_pos c3] at H
    have c3b0 : decide (x5_1 < (a0.size : Int)) = true := decide_eq_true c3
    clear c3
    by_cases c4 : 0 ≤ x5_1
    ·rw [if_pos c4] at H
     have c4b0 : decide (0 ≤ x5_1) = true := decide_eq_true c4
     clear c4
     replace H := Option.bind_eq_some_iff.mp H
     obtain ⟨t189, A60, H⟩ := H
     replace H : (if t189 = true then (cambistref02_part.l0 k1 a0 a1 (wrap64 (x5_1 + 1))) else ((cambistref02_within.f (bt a0 x5_1) 65 90).bind fun t190 => (if t190 = true then (cambistref02_part.l0 k1 a0 a1 (wrap64 (x5_1 + 1))) else ((cambistref02_within.f (bt a0 x5_1) 48 57).bind fun t191 => (if t191 = true then (cambistref02_part.l0 k1 a0 a1 (wrap64 (x5_1 + 1))) else (if ((bt a0 x5_1) = 45) then (cambistref02_part.l0 k1 a0 a1 (wrap64 (x5_1 + 1))) else (some false))))))) = some r := H
     have A6 := a_ A60
     clear A60
     by_cases c7 : t189 = true
     ·subst c7
      have H1 : (cambistref02_part.l0 k1 a0 a1 (wrap64 (x5_1 + 1))) = some r := by rw [if_pos rfl] at H; exact H
      clear H
      have H := H1
      clear H1
      have H' := a_ H
      clear H
      have p5 : 0 ≤ (x5_1 : Int) := of_decide_eq_true z79_
      have q5 : x5_1 < (a0.size : Int) := of_decide_eq_true z79_
      have hx5 := bt_at a0 x5_1
      replace p5 := eq_true p5
      replace q5 := eq_true q5
      go_wp2_with (first | ((with_reducible refine gate_callee (f := 54) rfl ?_); refine goesL_ (some 16) rfl rfl Tryz.func54 z85_ rfl #[.int .u8 (bt a0 x5_1), .int .u8 97, .int .u8 122] rfl z31_ ?_; (with_reducible refine (cambistref02_within.calls (bt a0 x5_1) 97 122 true _ ?side1 A6.out).mono ?_); (case side1 => (repeat (first | exact HG.out | apply Glob.drewN | apply Glob.drew))); rintro e w' ⟨rfl, ⟨nd, rfl⟩⟩; refine ⟨_, rfl, ?_⟩))
      go_roundg k1
      case measure => have := HK1.out; omega
      case rel => exact ⟨(wrap64 (x5_1 + 1)), z80_, H', ⟨z84_⟩, z78_⟩
     ·replace c7 := Bool.eq_false_iff.mpr c7
      subst c7
      have H1 : ((cambistref02_within.f (bt a0 x5_1) 65 90).bind fun t190 => (if t190 = true then (cambistref02_part.l0 k1 a0 a1 (wrap64 (x5_1 + 1))) else ((cambistref02_within.f (bt a0 x5_1) 48 57).bind fun t191 => (if t191 = true then (cambistref02_part.l0 k1 a0 a1 (wrap64 (x5_1 + 1))) else (if ((bt a0 x5_1) = 45) then (cambistref02_part.l0 k1 a0 a1 (wrap64 (x5_1 + 1))) else (some false)))))) = some r := by rw [if_neg (show ¬ (false = true) by decide)] at H; exact H
      clear H
      have H := H1
      clear H1
      replace H := Option.bind_eq_some_iff.mp H
      obtain ⟨t190, A90, H⟩ := H
      replace H : (if t190 = true then (cambistref02_part.l0 k1 a0 a1 (wrap64 (x5_1 + 1))) else ((cambistref02_within.f (bt a0 x5_1) 48 57).bind fun t191 => (if t191 = true then (cambistref02_part.l0 k1 a0 a1 (wrap64 (x5_1 + 1))) else (if ((bt a0 x5_1) = 45) then (cambistref02_part.l0 k1 a0 a1 (wrap64 (x5_1 + 1))) else (some false))))) = some r := H
      have A9 := a_ A90
      clear A90
      by_cases c10 : t190 = true
      ·subst c10
       have H1 : (cambistref02_part.l0 k1 a0 a1 (wrap64 (x5_1 + 1))) = some r := by rw [if_pos rfl] at H; exact H
       clear H
       have H := H1
       clear H1
       have H' := a_ H
       clear H
       have p5 : 0 ≤ (x5_1 : Int) := of_decide_eq_true z79_
       have q5 : x5_1 < (a0.size : Int) := of_decide_eq_true z79_
       have hx5 := bt_at a0 x5_1
       replace p5 := eq_true p5
       replace q5 := eq_true q5
       go_wp2_with (first | ((with_reducible refine gate_callee (f := 54) rfl ?_); refine goesL_ (some 16) rfl rfl Tryz.func54 z85_ rfl #[.int .u8 (bt a0 x5_1), .int .u8 97, .int .u8 122] rfl z31_ ?_; (with_reducible refine (cambistref02_within.calls (bt a0 x5_1) 97 122 false _ ?side1 A6.out).mono ?_); (case side1 => (repeat (first | exact HG.out | apply Glob.drewN | apply Glob.drew))); rintro e w' ⟨rfl, ⟨nd, rfl⟩⟩; refine ⟨_, rfl, ?_⟩; have p8 : 0 ≤ (x5_1 : Int) := of_decide_eq_true z79_; have q8 : x5_1 < (a0.size : Int) := of_decide_eq_true z79_; have hx8 := bt_at a0 x5_1; replace p8 := eq_true p8; replace q8 := eq_true q8) | (go_at_call 54; (with_reducible refine (cambistref02_within.calls (bt a0 x5_1) 65 90 true _ ?side1 A9.out).mono ?_); (case side1 => (repeat (first | exact HG.out | apply Glob.drewN | apply Glob.drew))); rintro e w' ⟨rfl, ⟨nd, rfl⟩⟩))
       go_roundg k1
       case measure => have := HK1.out; omega
       case rel => exact ⟨(wrap64 (x5_1 + 1)), z80_, H', ⟨z84_⟩, z78_⟩
      ·replace c10 := Bool.eq_false_iff.mpr c10
       subst c10
       have H1 : ((cambistref02_within.f (bt a0 x5_1) 48 57).bind fun t191 => (if t191 = true then (cambistref02_part.l0 k1 a0 a1 (wrap64 (x5_1 + 1))) else (if ((bt a0 x5_1) = 45) then (cambistref02_part.l0 k1 a0 a1 (wrap64 (x5_1 + 1))) else (some false)))) = some r := by rw [if_neg (show ¬ (false = true) by decide)] at H; exact H
       clear H
       have H := H1
       clear H1
       replace H := Option.bind_eq_some_iff.mp H
       obtain ⟨t191, A120, H⟩ := H
       replace H : (if t191 = true then (cambistref02_part.l0 k1 a0 a1 (wrap64 (x5_1 + 1))) else (if ((bt a0 x5_1) = 45) then (cambistref02_part.l0 k1 a0 a1 (wrap64 (x5_1 + 1))) else (some false))) = some r := H
       have A12 := a_ A120
       clear A120
       by_cases c13 : t191 = true
       ·subst c13
        have H1 : (cambistref02_part.l0 k1 a0 a1 (wrap64 (x5_1 + 1))) = some r := by rw [if_pos rfl] at H; exact H
        clear H
        have H := H1
        clear H1
        have H' := a_ H
        clear H
        have p5 : 0 ≤ (x5_1 : Int) := of_decide_eq_true z79_
        have q5 : x5_1 < (a0.size : Int) := of_decide_eq_true z79_
        have hx5 := bt_at a0 x5_1
        replace p5 := eq_true p5
        replace q5 := eq_true q5
        go_wp2_with (first | ((with_reducible refine gate_callee (f := 54) rfl ?_); refine goesL_ (some 16) rfl rfl Tryz.func54 z85_ rfl #[.int .u8 (bt a0 x5_1), .int .u8 97, .int .u8 122] rfl z31_ ?_; (with_reducible refine (cambistref02_within.calls (bt a0 x5_1) 97 122 false _ ?side1 A6.out).mono ?_); (case side1 => (repeat (first | exact HG.out | apply Glob.drewN | apply Glob.drew))); rintro e w' ⟨rfl, ⟨nd, rfl⟩⟩; refine ⟨_, rfl, ?_⟩; have p8 : 0 ≤ (x5_1 : Int) := of_decide_eq_true z79_; have q8 : x5_1 < (a0.size : Int) := of_decide_eq_true z79_; have hx8 := bt_at a0 x5_1; replace p8 := eq_true p8; replace q8 := eq_true q8) | (go_at_call 54; (with_reducible refine (cambistref02_within.calls (bt a0 x5_1) 65 90 false _ ?side1 A9.out).mono ?_); (case side1 => (repeat (first | exact HG.out | apply Glob.drewN | apply Glob.drew))); rintro e w' ⟨rfl, ⟨nd, rfl⟩⟩; have p11 : 0 ≤ (x5_1 : Int) := of_decide_eq_true z79_; have q11 : x5_1 < (a0.size : Int) := of_decide_eq_true z79_; have hx11 := bt_at a0 x5_1; replace p11 := eq_true p11; replace q11 := eq_true q11) | (go_at_call 54; (with_reducible refine (cambistref02_within.calls (bt a0 x5_1) 48 57 true _ ?side1 A12.out).mono ?_); (case side1 => (repeat (first | exact HG.out | apply Glob.drewN | apply Glob.drew))); rintro e w' ⟨rfl, ⟨nd, rfl⟩⟩))
        go_roundg k1
        case measure => have := HK1.out; omega
        case rel => exact ⟨(wrap64 (x5_1 + 1)), z80_, H', ⟨z84_⟩, z78_⟩
       ·replace c13 := Bool.eq_false_iff.mpr c13
        subst c13
        have H1 : (if ((bt a0 x5_1) = 45) then (cambistref02_part.l0 k1 a0 a1 (wrap64 (x5_1 + 1))) else (some false)) = some r := by rw [if_neg (show ¬ (false = true) by decide)] at H; exact H
        clear H
        have H := H1
        clear H1
        by_cases c15 : ((bt a0 x5_1) = 45)
        ·rw [if_pos c15] at H
         have c15b0 : ((bt a0 x5_1) == 45) = true := beq_iff_eq.mpr c15
         have c15b1 : ((bt a0 x5_1) != 45) = false := bne_eq_false_iff_eq.mpr c15
         clear c15
         have H' := a_ H
         clear H
         have p5 : 0 ≤ (x5_1 : Int) := of_decide_eq_true z79_
         have q5 : x5_1 < (a0.size : Int) := of_decide_eq_true z79_
         have hx5 := bt_at a0 x5_1
         replace p5 := eq_true p5
         replace q5 := eq_true q5
         go_wp2_with (first | ((with_reducible refine gate_callee (f := 54) rfl ?_); refine goesL_ (some 16) rfl rfl Tryz.func54 z85_ rfl #[.int .u8 (bt a0 x5_1), .int .u8 97, .int .u8 122] rfl z31_ ?_; (with_reducible refine (cambistref02_within.calls (bt a0 x5_1) 97 122 false _ ?side1 A6.out).mono ?_); (case side1 => (repeat (first | exact HG.out | apply Glob.drewN | apply Glob.drew))); rintro e w' ⟨rfl, ⟨nd, rfl⟩⟩; refine ⟨_, rfl, ?_⟩; have p8 : 0 ≤ (x5_1 : Int) := of_decide_eq_true z79_; have q8 : x5_1 < (a0.size : Int) := of_decide_eq_true z79_; have hx8 := bt_at a0 x5_1; replace p8 := eq_true p8; replace q8 := eq_true q8) | (go_at_call 54; (with_reducible refine (cambistref02_within.calls (bt a0 x5_1) 65 90 false _ ?side1 A9.out).mono ?_); (case side1 => (repeat (first | exact HG.out | apply Glob.drewN | apply Glob.drew))); rintro e w' ⟨rfl, ⟨nd, rfl⟩⟩; have p11 : 0 ≤ (x5_1 : Int) := of_decide_eq_true z79_; have q11 : x5_1 < (a0.size : Int) := of_decide_eq_true z79_; have hx11 := bt_at a0 x5_1; replace p11 := eq_true p11; replace q11 := eq_true q11) | (go_at_call 54; (with_reducible refine (cambistref02_within.calls (bt a0 x5_1) 48 57 false _ ?side1 A12.out).mono ?_); (case side1 => (repeat (first | exact HG.out | apply Glob.drewN | apply Glob.drew))); rintro e w' ⟨rfl, ⟨nd, rfl⟩⟩; have p14 : 0 ≤ (x5_1 : Int) := of_decide_eq_true z79_; have q14 : x5_1 < (a0.size : Int) := of_decide_eq_true z79_; have hx14 := bt_at a0 x5_1; replace p14 := eq_true p14; replace q14 := eq_true q14))
         go_roundg k1
         case measure => have := HK1.out; omega
         case rel => exact ⟨(wrap64 (x5_1 + 1)), z80_, H', ⟨z84_⟩, z78_⟩
        ·rw [if_neg c15] at H
         have c15b0 : ((bt a0 x5_1) == 45) = false := beq_eq_false_iff_ne.mpr c15
         have c15b1 : ((bt a0 x5_1) != 45) = true := bne_iff_ne.mpr c15
         obtain rfl := Option.some.inj H
         have p5 : 0 ≤ (x5_1 : Int) := of_decide_eq_true z79_
         have q5 : x5_1 < (a0.size : Int) := of_decide_eq_true z79_
         have hx5 := bt_at a0 x5_1
         replace p5 := eq_true p5
         replace q5 := eq_true q5
         go_wp2_with (first | ((with_reducible refine gate_callee (f := 54) rfl ?_); refine goesL_ (some 16) rfl rfl Tryz.func54 z85_ rfl #[.int .u8 (bt a0 x5_1), .int .u8 97, .int .u8 122] rfl z31_ ?_; (with_reducible refine (cambistref02_within.calls (bt a0 x5_1) 97 122 false _ ?side1 A6.out).mono ?_); (case side1 => (repeat (first | exact HG.out | apply Glob.drewN | apply Glob.drew))); rintro e w' ⟨rfl, ⟨nd, rfl⟩⟩; refine ⟨_, rfl, ?_⟩; have p8 : 0 ≤ (x5_1 : Int) := of_decide_eq_true z79_; have q8 : x5_1 < (a0.size : Int) := of_decide_eq_true z79_; have hx8 := bt_at a0 x5_1; replace p8 := eq_true p8; replace q8 := eq_true q8) | (go_at_call 54; (with_reducible refine (cambistref02_within.calls (bt a0 x5_1) 65 90 false _ ?side1 A9.out).mono ?_); (case side1 => (repeat (first | exact HG.out | apply Glob.drewN | apply Glob.drew))); rintro e w' ⟨rfl, ⟨nd, rfl⟩⟩; have p11 : 0 ≤ (x5_1 : Int) := of_decide_eq_true z79_; have q11 : x5_1 < (a0.size : Int) := of_decide_eq_true z79_; have hx11 := bt_at a0 x5_1; replace p11 := eq_true p11; replace q11 := eq_true q11) | (go_at_call 54; (with_reducible refine (cambistref02_within.calls (bt a0 x5_1) 48 57 false _ ?side1 A12.out).mono ?_); (case side1 => (repeat (first | exact HG.out | apply Glob.drewN | apply Glob.drew))); rintro e w' ⟨rfl, ⟨nd, rfl⟩⟩; have p14 : 0 ≤ (x5_1 : Int) := of_decide_eq_true z79_; have q14 : x5_1 < (a0.size : Int) := of_decide_eq_true z79_; have hx14 := bt_at a0 x5_1; replace p14 := eq_true p14; replace q14 := eq_true q14))
         go_ret
         exact ⟨z80_, z78_⟩
    ·rw [if_neg c4] at H
     exact absurd H (by simp)
   ·rw [if_neg c3] at H
    have c3b0 : decide (x5_1 < (a0.size : Int)) = false := decide_eq_false c3
    clear c3
    by_cases c16 : (a0.size : Int) ≥ 1
    ·rw [if_pos c16] at H
     have c16b0 : decide (1 ≤ (a0.size : Int)) = true := decide_eq_true c16
     have c16b1 : decide (1 ≤ a0.size) = true := decide_eq_true (by omega)
     clear c16
     obtain rfl := Option.some.inj H
     go_wp2
     go_ret
     exact ⟨z80_, z78_⟩
    ·rw [if_neg c16] at H
     have c16b0 : decide (1 ≤ (a0.size : Int)) = false := decide_eq_false c16
     have c16b1 : decide (1 ≤ a0.size) = false := decide_eq_false (by omega)
     clear c16
     obtain rfl := Option.some.inj H
     go_wp2
     go_ret
     exact ⟨z80_, z78_⟩

/-! ### cambistref02_Word: function 39 -/
def cambistref02_Word.f (k : Nat) (a0 : ByteArray) : Option (Bool) := (cambistref02_part.f k a0 12).bind fun t192 => (some t192)
theorem cambistref02_Word.mono : ∀ a0 k, LeO (cambistref02_Word.f k a0) (cambistref02_Word.f (k + 1) a0) := by
 intro a0 k
 unfold cambistref02_Word.f
 repeat' first
   | (with_reducible exact cambistref02_part.mono _ _ _)
   | (with_reducible first | exact LeO.refl _ | exact LeO.none _ | refine LeO.ite ?_ ?_ | refine LeO.bind ?_ fun _ => ?_)
   | exact cambistref02_part.mono _ _ _
set_option maxHeartbeats 8000000 in
set_option maxRecDepth 100000 in
theorem cambistref02_Word.calls (k : Nat) (a0 : ByteArray) (r : Bool) (w : World) (hG : Glob w) (h : cambistref02_Word.f k a0 = some r) :
  Calls Tryz.prog 39 #[.string a0] w fun e w' => e = .returned (.bool r) ∧ Drawn0 w w' := by
 have HG := a_ hG
 clear hG
 have H : ((cambistref02_part.f k a0 12).bind fun t192 => (some t192)) = some r := h
 clear h
 replace H := Option.bind_eq_some_iff.mp H
 obtain ⟨t192, A20, H⟩ := H
 replace H : (some t192) = some r := H
 have A2 := a_ A20
 clear A20
 obtain rfl := Option.some.inj H
 go_enter Tryz.func39, Tryz.ntmps39
 go_wp2_with (first | ((with_reducible refine gate_callee (f := 56) rfl ?_); refine goesL_ (some 4) rfl rfl Tryz.func56 z85_ rfl #[.string a0, .int .i64 12] rfl z31_ ?_; (with_reducible refine (cambistref02_part.calls k a0 12 t192 _ ?side1 A2.out).mono ?_); (case side1 => (repeat (first | exact HG.out | apply Glob.drewN | apply Glob.drew))); rintro e w' ⟨rfl, ⟨nd, rfl⟩⟩; refine ⟨_, rfl, ?_⟩))
 go_ret
 exact ⟨z80_, z78_⟩

/-! ### cambistref19_Check: function 12 -/
mutual
def cambistref19_Check.j0 : Nat → Bool → ByteArray → ByteArray → Int → Int → List (S37) → Int → Option (Int)
 | 0, _, _, _, _, _, _, _ => none
 | k + 1, x41, x194000, x194001, x194002, x194003, x194004, x194005 => if x41 = true then (some 190) else (cambistref19_Check.l0 k 0 x194000 x194001 x194002 x194003 x194004 x194005)
def cambistref19_Check.l0 : Nat → Int → ByteArray → ByteArray → Int → Int → List (S37) → Int → Option (Int)
 | 0, _, _, _, _, _, _, _ => none
 | k + 1, x7, x194000, x194001, x194002, x194003, x194004, x194005 => if x7 < (x194004.length : Int) then (if 0 ≤ x7 then ((cambistref02_Word.f k ((rd_T37 x194004 x7).f1)).bind fun t199 => (if t199 = true then (if ((rd_T37 x194004 x7).f2) = 0 then (some 190) else (cambistref19_Check.l0 k (wrap64 (x7 + 1)) x194000 x194001 x194002 x194003 x194004 x194005)) else (some 190))) else (none)) else (some 0)
end
def cambistref19_Check.f (k : Nat) (a0_0 : ByteArray) (a0_1 : ByteArray) (a0_2 : Int) (a0_3 : Int) (l0_4 : List (S37)) (a0_5 : Int) : Option (Int) := (cambistref02_Who.f k a0_0).bind fun t194 => ((cambistref02_Asset.f k a0_1).bind fun t195 => ((cambistref19_whole.f k a0_0 a0_1 a0_2 a0_3 l0_4 a0_5).bind fun bt196 => (if t194 = true then (if t195 = true then (if (l0_4.length : Int) > 1000 then (cambistref19_Check.j0 k true a0_0 a0_1 a0_2 a0_3 l0_4 a0_5) else (if bt196.2 = 0 then (cambistref19_Check.j0 k (bt196.1 != a0_5) a0_0 a0_1 a0_2 a0_3 l0_4 a0_5) else (cambistref19_Check.j0 k true a0_0 a0_1 a0_2 a0_3 l0_4 a0_5))) else (cambistref19_Check.j0 k true a0_0 a0_1 a0_2 a0_3 l0_4 a0_5)) else (cambistref19_Check.j0 k true a0_0 a0_1 a0_2 a0_3 l0_4 a0_5))))
theorem cambistref19_Check.mono_l : ∀ k, (∀ y0 y1 y2 y3 y4 y5 y6, LeO (cambistref19_Check.j0 k y0 y1 y2 y3 y4 y5 y6) (cambistref19_Check.j0 (k + 1) y0 y1 y2 y3 y4 y5 y6)) ∧ (∀ y0 y1 y2 y3 y4 y5 y6, LeO (cambistref19_Check.l0 k y0 y1 y2 y3 y4 y5 y6) (cambistref19_Check.l0 (k + 1) y0 y1 y2 y3 y4 y5 y6))
 | 0 => ⟨fun _ _ _ _ _ _ _ r h => by simp [cambistref19_Check.j0] at h, fun _ _ _ _ _ _ _ r h => by simp [cambistref19_Check.l0] at h⟩
 | k + 1 => by
  obtain ⟨ih0, ih1⟩ := cambistref19_Check.mono_l k
  refine ⟨?_, ?_⟩
  ·intro y0 y1 y2 y3 y4 y5 y6
   unfold cambistref19_Check.j0
   repeat' first
   | (with_reducible exact ih0 _ _ _ _ _ _ _)
   | (with_reducible exact ih1 _ _ _ _ _ _ _)
   | (with_reducible exact cambistref02_Asset.mono _ _)
   | (with_reducible exact cambistref02_Who.mono _ _)
   | (with_reducible exact cambistref02_Word.mono _ _)
   | (with_reducible exact cambistref19_whole.mono _ _ _ _ _ _ _)
   | (with_reducible first | exact LeO.refl _ | exact LeO.none _ | refine LeO.ite ?_ ?_ | refine LeO.bind ?_ fun _ => ?_)
   | exact ih0 _ _ _ _ _ _ _
   | exact ih1 _ _ _ _ _ _ _
   | exact cambistref02_Asset.mono _ _
   | exact cambistref02_Who.mono _ _
   | exact cambistref02_Word.mono _ _
   | exact cambistref19_whole.mono _ _ _ _ _ _ _
  ·intro y0 y1 y2 y3 y4 y5 y6
   unfold cambistref19_Check.l0
   repeat' first
   | (with_reducible exact ih0 _ _ _ _ _ _ _)
   | (with_reducible exact ih1 _ _ _ _ _ _ _)
   | (with_reducible exact cambistref02_Asset.mono _ _)
   | (with_reducible exact cambistref02_Who.mono _ _)
   | (with_reducible exact cambistref02_Word.mono _ _)
   | (with_reducible exact cambistref19_whole.mono _ _ _ _ _ _ _)
   | (with_reducible first | exact LeO.refl _ | exact LeO.none _ | refine LeO.ite ?_ ?_ | refine LeO.bind ?_ fun _ => ?_)
   | exact ih0 _ _ _ _ _ _ _
   | exact ih1 _ _ _ _ _ _ _
   | exact cambistref02_Asset.mono _ _
   | exact cambistref02_Who.mono _ _
   | exact cambistref02_Word.mono _ _
   | exact cambistref19_whole.mono _ _ _ _ _ _ _
theorem cambistref19_Check.mono : ∀ a0 a1 a2 a3 a4 a5 k, LeO (cambistref19_Check.f k a0 a1 a2 a3 a4 a5) (cambistref19_Check.f (k + 1) a0 a1 a2 a3 a4 a5) := by
 intro a0 a1 a2 a3 a4 a5 k
 obtain ⟨ih0, ih1⟩ := cambistref19_Check.mono_l k
 unfold cambistref19_Check.f
 repeat' first
   | (with_reducible exact ih0 _ _ _ _ _ _ _)
   | (with_reducible exact ih1 _ _ _ _ _ _ _)
   | (with_reducible exact cambistref02_Asset.mono _ _)
   | (with_reducible exact cambistref02_Who.mono _ _)
   | (with_reducible exact cambistref02_Word.mono _ _)
   | (with_reducible exact cambistref19_whole.mono _ _ _ _ _ _ _)
   | (with_reducible first | exact LeO.refl _ | exact LeO.none _ | refine LeO.ite ?_ ?_ | refine LeO.bind ?_ fun _ => ?_)
   | exact ih0 _ _ _ _ _ _ _
   | exact ih1 _ _ _ _ _ _ _
   | exact cambistref02_Asset.mono _ _
   | exact cambistref02_Who.mono _ _
   | exact cambistref02_Word.mono _ _
   | exact cambistref19_whole.mono _ _ _ _ _ _ _
set_option maxHeartbeats 8000000 in
set_option maxRecDepth 100000 in
theorem cambistref19_Check.calls (k : Nat) (a0_0 : ByteArray) (a0_1 : ByteArray) (a0_2 : Int) (a0_3 : Int) (A0_4 : Option Addr) (c0_4 : Nat) (l0_4 : List (S37)) (a0_5 : Int) (r : Int) (w : World) (hG : Glob w) (hr0_4 : Kd.C k37 w A0_4 l0_4.length l0_4) (hc0_4 : l0_4.length ≤ c0_4) (h : cambistref19_Check.f k a0_0 a0_1 a0_2 a0_3 l0_4 a0_5 = some r) :
  Calls Tryz.prog 12 #[.agg #[.string a0_0, .string a0_1, .int .u64 a0_2, .int .i64 a0_3, .slice A0_4 l0_4.length c0_4, .int .i64 a0_5]] w fun e w' => e = .returned (.int .i64 r) ∧ Below w.heap.size w w' := by
 have hu25 := Tryz.underlying25
 have HG := a_ hG
 clear hG
 have HR0_4 := a_ hr0_4
 have HC0_4 := a_ hc0_4
 clear hr0_4 hc0_4
 have HB := a_ (Below.refl w.heap.size w)
 have H : ((cambistref02_Who.f k a0_0).bind fun t194 => ((cambistref02_Asset.f k a0_1).bind fun t195 => ((cambistref19_whole.f k a0_0 a0_1 a0_2 a0_3 l0_4 a0_5).bind fun bt196 => (if t194 = true then (if t195 = true then (if (l0_4.length : Int) > 1000 then (cambistref19_Check.j0 k true a0_0 a0_1 a0_2 a0_3 l0_4 a0_5) else (if bt196.2 = 0 then (cambistref19_Check.j0 k (bt196.1 != a0_5) a0_0 a0_1 a0_2 a0_3 l0_4 a0_5) else (cambistref19_Check.j0 k true a0_0 a0_1 a0_2 a0_3 l0_4 a0_5))) else (cambistref19_Check.j0 k true a0_0 a0_1 a0_2 a0_3 l0_4 a0_5)) else (cambistref19_Check.j0 k true a0_0 a0_1 a0_2 a0_3 l0_4 a0_5))))) = some r := h
 clear h
 replace H := Option.bind_eq_some_iff.mp H
 obtain ⟨t194, A20, H⟩ := H
 replace H : ((cambistref02_Asset.f k a0_1).bind fun t195 => ((cambistref19_whole.f k a0_0 a0_1 a0_2 a0_3 l0_4 a0_5).bind fun bt196 => (if t194 = true then (if t195 = true then (if (l0_4.length : Int) > 1000 then (cambistref19_Check.j0 k true a0_0 a0_1 a0_2 a0_3 l0_4 a0_5) else (if bt196.2 = 0 then (cambistref19_Check.j0 k (bt196.1 != a0_5) a0_0 a0_1 a0_2 a0_3 l0_4 a0_5) else (cambistref19_Check.j0 k true a0_0 a0_1 a0_2 a0_3 l0_4 a0_5))) else (cambistref19_Check.j0 k true a0_0 a0_1 a0_2 a0_3 l0_4 a0_5)) else (cambistref19_Check.j0 k true a0_0 a0_1 a0_2 a0_3 l0_4 a0_5)))) = some r := H
 have A2 := a_ A20
 clear A20
 replace H := Option.bind_eq_some_iff.mp H
 obtain ⟨t195, A30, H⟩ := H
 replace H : ((cambistref19_whole.f k a0_0 a0_1 a0_2 a0_3 l0_4 a0_5).bind fun bt196 => (if t194 = true then (if t195 = true then (if (l0_4.length : Int) > 1000 then (cambistref19_Check.j0 k true a0_0 a0_1 a0_2 a0_3 l0_4 a0_5) else (if bt196.2 = 0 then (cambistref19_Check.j0 k (bt196.1 != a0_5) a0_0 a0_1 a0_2 a0_3 l0_4 a0_5) else (cambistref19_Check.j0 k true a0_0 a0_1 a0_2 a0_3 l0_4 a0_5))) else (cambistref19_Check.j0 k true a0_0 a0_1 a0_2 a0_3 l0_4 a0_5)) else (cambistref19_Check.j0 k true a0_0 a0_1 a0_2 a0_3 l0_4 a0_5))) = some r := H
 have A3 := a_ A30
 clear A30
 replace H := Option.bind_eq_some_iff.mp H
 obtain ⟨⟨t196, t197⟩, A40, H⟩ := H
 replace H : (if t194 = true then (if t195 = true then (if (l0_4.length : Int) > 1000 then (cambistref19_Check.j0 k true a0_0 a0_1 a0_2 a0_3 l0_4 a0_5) else (if t197 = 0 then (cambistref19_Check.j0 k (t196 != a0_5) a0_0 a0_1 a0_2 a0_3 l0_4 a0_5) else (cambistref19_Check.j0 k true a0_0 a0_1 a0_2 a0_3 l0_4 a0_5))) else (cambistref19_Check.j0 k true a0_0 a0_1 a0_2 a0_3 l0_4 a0_5)) else (cambistref19_Check.j0 k true a0_0 a0_1 a0_2 a0_3 l0_4 a0_5)) = some r := H
 have A4 := a_ A40
 clear A40
 have HC5 := a_ H
 clear H
 go_enter Tryz.func12, Tryz.ntmps12
 go_upto_region 4 with (first | ((with_reducible refine gate_dst (N := 1) rfl ?_); (try (refine gate_guard (by rfl) ?_; dsimp only)); refine box_event ?hg (N := 1) ?hd (cs := #[.string a0_0, .string a0_1, .int .u64 a0_2, .int .i64 a0_3, .slice A0_4 l0_4.length c0_4, .int .i64 a0_5]) (t := 25) ?hr ?_; (case hd => rfl); (case hg => rfl); (case hr => first | (go_simp; done) | (go_simp; rfl)); intro gb193 hg w6 hbox hb; have n0_ := a_ (below_step z45_ hb); have n1_ := a_ (hbox); have n2_ := a_ ((z32_ : w.heap.size ≤ gb193)); have n3_ := a_ ((z32_ : w.heap.size ≤ gb193)); clear HB; have HB := n0_; have BK193 := n1_; have GW193 := n2_; have GE193 := n3_; clear n0_ n1_ n2_ n3_; clear hb hbox hg; have hcz7_0 : w6.cell? ⟨gb193, 0, none⟩ = some (.string a0_0) := (blk_cell BK193.out 0).trans rfl; have hcz7_1 : w6.cell? ⟨gb193, 1, none⟩ = some (.string a0_1) := (blk_cell BK193.out 1).trans rfl; have hcz7_2 : w6.cell? ⟨gb193, 2, none⟩ = some (.int .u64 a0_2) := (blk_cell BK193.out 2).trans rfl; have hcz7_3 : w6.cell? ⟨gb193, 3, none⟩ = some (.int .i64 a0_3) := (blk_cell BK193.out 3).trans rfl; have hcz7_4 : w6.cell? ⟨gb193, 4, none⟩ = some (.slice A0_4 l0_4.length c0_4) := (blk_cell BK193.out 4).trans rfl; have hcz7_5 : w6.cell? ⟨gb193, 5, none⟩ = some (.int .i64 a0_5) := (blk_cell BK193.out 5).trans rfl; have hfz7_0 := blk_frozen BK193.out 0; have hfz7_1 := blk_frozen BK193.out 1; have hfz7_2 := blk_frozen BK193.out 2; have hfz7_3 := blk_frozen BK193.out 3; have hfz7_4 := blk_frozen BK193.out 4; have hfz7_5 := blk_frozen BK193.out 5) | ((with_reducible refine gate_callee (f := 36) rfl ?_); refine goesL_ (some 11) rfl rfl Tryz.func36 z85_ rfl #[.string a0_0] rfl z31_ ?_; (with_reducible refine (cambistref02_Who.calls k a0_0 t194 _ ?side1 A2.out).mono ?_); (case side1 => exact Glob.below HG.out z38_); rintro e w' ⟨rfl, ⟨nd, rfl⟩⟩; refine ⟨_, rfl, ?_⟩) | ((with_reducible refine gate_callee (f := 37) rfl ?_); refine goesL_ (some 14) rfl rfl Tryz.func37 z85_ rfl #[.string a0_1] rfl z31_ ?_; (with_reducible refine (cambistref02_Asset.calls k a0_1 t195 _ ?side1 A3.out).mono ?_); (case side1 => exact Glob.below HG.out z38_); rintro e w' ⟨rfl, ⟨nd, rfl⟩⟩; refine ⟨_, rfl, ?_⟩) | ((with_reducible refine gate_callee (f := 38) rfl ?_); refine goesL_ (some 17) rfl rfl Tryz.func38 z85_ rfl #[.agg #[.string a0_0, .string a0_1, .int .u64 a0_2, .int .i64 a0_3, .slice A0_4 l0_4.length c0_4, .int .i64 a0_5]] rfl z31_ ?_; (with_reducible refine (cambistref19_whole.calls k a0_0 a0_1 a0_2 a0_3 _ _ l0_4 a0_5 t196 t197 _ ?side1 ?side2 ?side3 A4.out).mono ?_); (case side1 => exact Glob.below HG.out z38_); (case side2 => repeat (first | exact (Kd.C_below HR0_4.out z38_) | (with_reducible refine Kd.C_alloc ?_ _) | (with_reducible refine Kd.C_drewN ?_ _) | (with_reducible refine Kd.C_drew ?_))); (case side3 => exact HC0_4.out); rintro e w8 ⟨rfl, hb⟩; refine ⟨_, rfl, ?_⟩; have n0_ := a_ (blk_below (g := gb193) (o := .cells #[.string a0_0, .string a0_1, .int .u64 a0_2, .int .i64 a0_3, .slice A0_4 l0_4.length c0_4, .int .i64 a0_5] 25 (0, 0)) z67_ hb); have n1_ := a_ (below_step z38_ hb); clear BK193; clear HB; have BK193 := n0_; have HB := n1_; clear n0_ n1_; (try clear hb); (try clear hb2); (try clear hk); (try clear hi)))
 (try simp only [Act.put, sT_, s0_, sS_])
 go_cut [41] (fun v41 wc => ∃ (kq : Nat) (x41_4 : Bool), v41 = .bool x41_4 ∧ Aside0 (cambistref19_Check.j0 kq x41_4 a0_0 a0_1 a0_2 a0_3 l0_4 a0_5 = some r) ∧ Aside0 (kq ≤ k) ∧ Aside0 (wc.heap[gb193]? = some (.cells #[.string a0_0, .string a0_1, .int .u64 a0_2, .int .i64 a0_3, (.slice A0_4 l0_4.length c0_4), .int .i64 a0_5] 25 (0, 0))) ∧ Aside0 (Below w.heap.size w wc))
 case first =>
  have H := HC5.out
  clear HC5
  by_cases c9 : t194 = true
  ·subst c9
   have H1 : (if t195 = true then (if (l0_4.length : Int) > 1000 then (cambistref19_Check.j0 k true a0_0 a0_1 a0_2 a0_3 l0_4 a0_5) else (if t197 = 0 then (cambistref19_Check.j0 k (t196 != a0_5) a0_0 a0_1 a0_2 a0_3 l0_4 a0_5) else (cambistref19_Check.j0 k true a0_0 a0_1 a0_2 a0_3 l0_4 a0_5))) else (cambistref19_Check.j0 k true a0_0 a0_1 a0_2 a0_3 l0_4 a0_5)) = some r := by rw [if_pos rfl] at H; exact H
   clear H
   have H := H1
   clear H1
   by_cases c10 : t195 = true
   ·subst c10
    have H1 : (if (l0_4.length : Int) > 1000 then (cambistref19_Check.j0 k true a0_0 a0_1 a0_2 a0_3 l0_4 a0_5) else (if t197 = 0 then (cambistref19_Check.j0 k (t196 != a0_5) a0_0 a0_1 a0_2 a0_3 l0_4 a0_5) else (cambistref19_Check.j0 k true a0_0 a0_1 a0_2 a0_3 l0_4 a0_5))) = some r := by rw [if_pos rfl] at H; exact H
    clear H
    have H := H1
    clear H1
    by_cases c11 : (l0_4.length : Int) > 1000
    ·rw [if_pos c11] at H
     have c11b0 : decide (1000 < (l0_4.length : Int)) = true := decide_eq_true c11
     have c11b1 : decide (1000 < l0_4.length) = true := decide_eq_true (by omega)
     clear c11
     (first | rw [c11b0] | (simp only [i64_w, i32_w]; rw [c11b0]) | skip)
     have H' := a_ H
     clear H
     have hcz12_0 : w8.cell? ⟨gb193, 0, none⟩ = some (.string a0_0) := (blk_cell BK193.out 0).trans rfl
     have hcz12_1 : w8.cell? ⟨gb193, 1, none⟩ = some (.string a0_1) := (blk_cell BK193.out 1).trans rfl
     have hcz12_2 : w8.cell? ⟨gb193, 2, none⟩ = some (.int .u64 a0_2) := (blk_cell BK193.out 2).trans rfl
     have hcz12_3 : w8.cell? ⟨gb193, 3, none⟩ = some (.int .i64 a0_3) := (blk_cell BK193.out 3).trans rfl
     have hcz12_4 : w8.cell? ⟨gb193, 4, none⟩ = some (.slice A0_4 l0_4.length c0_4) := (blk_cell BK193.out 4).trans rfl
     have hcz12_5 : w8.cell? ⟨gb193, 5, none⟩ = some (.int .i64 a0_5) := (blk_cell BK193.out 5).trans rfl
     have hfz12_0 := blk_frozen BK193.out 0
     have hfz12_1 := blk_frozen BK193.out 1
     have hfz12_2 := blk_frozen BK193.out 2
     have hfz12_3 := blk_frozen BK193.out 3
     have hfz12_4 := blk_frozen BK193.out 4
     have hfz12_5 := blk_frozen BK193.out 5
     go_wp2
     go_meet
     case rel => exact ⟨_, (true), z80_, H', ⟨z83_⟩, ⟨z67_⟩, ⟨z38_⟩⟩
    ·rw [if_neg c11] at H
     have c11b0 : decide (1000 < (l0_4.length : Int)) = false := decide_eq_false c11
     have c11b1 : decide (1000 < l0_4.length) = false := decide_eq_false (by omega)
     clear c11
     (first | rw [c11b0] | (simp only [i64_w, i32_w]; rw [c11b0]) | skip)
     by_cases c13 : t197 = 0
     ·rw [if_pos c13] at H
      have c13b0 : (t197 == 0) = true := beq_iff_eq.mpr c13
      have c13b1 : (t197 != 0) = false := bne_eq_false_iff_eq.mpr c13
      clear c13
      have H' := a_ H
      clear H
      have hcz14_0 : w8.cell? ⟨gb193, 0, none⟩ = some (.string a0_0) := (blk_cell BK193.out 0).trans rfl
      have hcz14_1 : w8.cell? ⟨gb193, 1, none⟩ = some (.string a0_1) := (blk_cell BK193.out 1).trans rfl
      have hcz14_2 : w8.cell? ⟨gb193, 2, none⟩ = some (.int .u64 a0_2) := (blk_cell BK193.out 2).trans rfl
      have hcz14_3 : w8.cell? ⟨gb193, 3, none⟩ = some (.int .i64 a0_3) := (blk_cell BK193.out 3).trans rfl
      have hcz14_4 : w8.cell? ⟨gb193, 4, none⟩ = some (.slice A0_4 l0_4.length c0_4) := (blk_cell BK193.out 4).trans rfl
      have hcz14_5 : w8.cell? ⟨gb193, 5, none⟩ = some (.int .i64 a0_5) := (blk_cell BK193.out 5).trans rfl
      have hfz14_0 := blk_frozen BK193.out 0
      have hfz14_1 := blk_frozen BK193.out 1
      have hfz14_2 := blk_frozen BK193.out 2
      have hfz14_3 := blk_frozen BK193.out 3
      have hfz14_4 := blk_frozen BK193.out 4
      have hfz14_5 := blk_frozen BK193.out 5
      go_wp2
      go_meet
      case rel => exact ⟨_, ((t196 != a0_5)), z80_, H', ⟨z83_⟩, ⟨z67_⟩, ⟨z38_⟩⟩
     ·rw [if_neg c13] at H
      have c13b0 : (t197 == 0) = false := beq_eq_false_iff_ne.mpr c13
      have c13b1 : (t197 != 0) = true := bne_iff_ne.mpr c13
      have H' := a_ H
      clear H
      have hcz15_0 : w8.cell? ⟨gb193, 0, none⟩ = some (.string a0_0) := (blk_cell BK193.out 0).trans rfl
      have hcz15_1 : w8.cell? ⟨gb193, 1, none⟩ = some (.string a0_1) := (blk_cell BK193.out 1).trans rfl
      have hcz15_2 : w8.cell? ⟨gb193, 2, none⟩ = some (.int .u64 a0_2) := (blk_cell BK193.out 2).trans rfl
      have hcz15_3 : w8.cell? ⟨gb193, 3, none⟩ = some (.int .i64 a0_3) := (blk_cell BK193.out 3).trans rfl
      have hcz15_4 : w8.cell? ⟨gb193, 4, none⟩ = some (.slice A0_4 l0_4.length c0_4) := (blk_cell BK193.out 4).trans rfl
      have hcz15_5 : w8.cell? ⟨gb193, 5, none⟩ = some (.int .i64 a0_5) := (blk_cell BK193.out 5).trans rfl
      have hfz15_0 := blk_frozen BK193.out 0
      have hfz15_1 := blk_frozen BK193.out 1
      have hfz15_2 := blk_frozen BK193.out 2
      have hfz15_3 := blk_frozen BK193.out 3
      have hfz15_4 := blk_frozen BK193.out 4
      have hfz15_5 := blk_frozen BK193.out 5
      go_wp2
      go_meet
      case rel => exact ⟨_, (true), z80_, H', ⟨z83_⟩, ⟨z67_⟩, ⟨z38_⟩⟩
   ·replace c10 := Bool.eq_false_iff.mpr c10
    subst c10
    have H1 : (cambistref19_Check.j0 k true a0_0 a0_1 a0_2 a0_3 l0_4 a0_5) = some r := by rw [if_neg (show ¬ (false = true) by decide)] at H; exact H
    clear H
    have H := H1
    clear H1
    have H' := a_ H
    clear H
    go_wp2
    go_meet
    case rel => exact ⟨_, (true), z80_, H', ⟨z83_⟩, ⟨z67_⟩, ⟨z38_⟩⟩
  ·replace c9 := Bool.eq_false_iff.mpr c9
   subst c9
   have H1 : (cambistref19_Check.j0 k true a0_0 a0_1 a0_2 a0_3 l0_4 a0_5) = some r := by rw [if_neg (show ¬ (false = true) by decide)] at H; exact H
   clear H
   have H := H1
   clear H1
   have H' := a_ H
   clear H
   go_wp2
   go_meet
   case rel => exact ⟨_, (true), z80_, H', ⟨z83_⟩, ⟨z67_⟩, ⟨z38_⟩⟩
 case rest =>
  clear HC5
  try clear c1
  try clear p2
  try clear c3
  try clear c9
  try clear c10
  try clear c11
  try clear c11b0
  try clear c11b1
  try clear c12
  try clear c13
  try clear c13b0
  try clear c13b1
  try clear hcz12_0
  try clear hcz12_1
  try clear hcz12_2
  try clear hcz12_3
  try clear hcz12_4
  try clear hcz12_5
  try clear hcz14_0
  try clear hcz14_1
  try clear hcz14_2
  try clear hcz14_3
  try clear hcz14_4
  try clear hcz14_5
  try clear hcz15_0
  try clear hcz15_1
  try clear hcz15_2
  try clear hcz15_3
  try clear hcz15_4
  try clear hcz15_5
  try clear hcz7_0
  try clear hcz7_1
  try clear hcz7_2
  try clear hcz7_3
  try clear hcz7_4
  try clear hcz7_5
  try clear hfz12_0
  try clear hfz12_1
  try clear hfz12_2
  try clear hfz12_3
  try clear hfz12_4
  try clear hfz12_5
  try clear hfz14_0
  try clear hfz14_1
  try clear hfz14_2
  try clear hfz14_3
  try clear hfz14_4
  try clear hfz14_5
  try clear hfz15_0
  try clear hfz15_1
  try clear hfz15_2
  try clear hfz15_3
  try clear hfz15_4
  try clear hfz15_5
  try clear hfz7_0
  try clear hfz7_1
  try clear hfz7_2
  try clear hfz7_3
  try clear hfz7_4
  try clear hfz7_5
  obtain ⟨kq, x41_4, rfl, HA, HJ4, BK193, HB⟩ := hcut
  cases kq with
  | zero => exact absurd HA.out (by simp [cambistref19_Check.j0])
  | succ kj4 =>
   have H := HA.out
   clear HA
   simp only [cambistref19_Check.j0] at H
   by_cases c16 : x41_4 = true
   ·subst c16
    have H1 : (some 190) = some r := by rw [if_pos rfl] at H; exact H
    clear H
    have H := H1
    clear H1
    obtain rfl := Option.some.inj H
    go_wp2
    go_ret
    exact ⟨z76_, z38_⟩
   ·replace c16 := Bool.eq_false_iff.mpr c16
    subst c16
    have H1 : (cambistref19_Check.l0 kj4 0 a0_0 a0_1 a0_2 a0_3 l0_4 a0_5) = some r := by rw [if_neg (show ¬ (false = true) by decide)] at H; exact H
    clear H
    have H := H1
    clear H1
    have H' := a_ H
    clear H
    go_wp2
    go_loopg [7] kj4 (fun kq v7 w' => ∃ (x7_2 : Int), v7 = .int .i64 x7_2 ∧ Aside0 (cambistref19_Check.l0 kq x7_2 a0_0 a0_1 a0_2 a0_3 l0_4 a0_5 = some r) ∧ Aside0 (kq ≤ kj4) ∧ Aside0 (w'.heap[gb193]? = some (.cells #[.string a0_0, .string a0_1, .int .u64 a0_2, .int .i64 a0_3, (.slice A0_4 l0_4.length c0_4), .int .i64 a0_5] 25 (0, 0))) ∧ Aside0 (Below w.heap.size w w'))
    case atStart => exact ⟨(0), z80_, H', ⟨Nat.le_refl _⟩, ⟨z67_⟩, ⟨z38_⟩⟩
    case round =>
     clear H'
     try clear c1
     try clear p2
     try clear c3
     try clear c9
     try clear c10
     try clear c11
     try clear c11b0
     try clear c11b1
     try clear c12
     try clear c13
     try clear c13b0
     try clear c13b1
     try clear c16
     try clear hcz12_0
     try clear hcz12_1
     try clear hcz12_2
     try clear hcz12_3
     try clear hcz12_4
     try clear hcz12_5
     try clear hcz14_0
     try clear hcz14_1
     try clear hcz14_2
     try clear hcz14_3
     try clear hcz14_4
     try clear hcz14_5
     try clear hcz15_0
     try clear hcz15_1
     try clear hcz15_2
     try clear hcz15_3
     try clear hcz15_4
     try clear hcz15_5
     try clear hcz7_0
     try clear hcz7_1
     try clear hcz7_2
     try clear hcz7_3
     try clear hcz7_4
     try clear hcz7_5
     try clear hfz12_0
     try clear hfz12_1
     try clear hfz12_2
     try clear hfz12_3
     try clear hfz12_4
     try clear hfz12_5
     try clear hfz14_0
     try clear hfz14_1
     try clear hfz14_2
     try clear hfz14_3
     try clear hfz14_4
     try clear hfz14_5
     try clear hfz15_0
     try clear hfz15_1
     try clear hfz15_2
     try clear hfz15_3
     try clear hfz15_4
     try clear hfz15_5
     try clear hfz7_0
     try clear hfz7_1
     try clear hfz7_2
     try clear hfz7_3
     try clear hfz7_4
     try clear hfz7_5
     try clear p2
     obtain ⟨x7_2, rfl, HA, HK2, BK193, HB⟩ := hrel
     cases gk with
     | zero => exact absurd HA.out (by simp [cambistref19_Check.l0])
     | succ k2 =>
      have H := HA.out
      clear HA
      simp only [cambistref19_Check.l0] at H
      by_cases c17 : x7_2 < (l0_4.length : Int)
      ·rw [if_pos c17] at H
       have c17b0 : decide (x7_2 < (l0_4.length : Int)) = true := decide_eq_true c17
       clear c17
       by_cases c18 : 0 ≤ x7_2
       ·rw [if_pos c18] at H
        have c18b0 : decide (0 ≤ x7_2) = true := decide_eq_true c18
        clear c18
        replace H := Option.bind_eq_some_iff.mp H
        obtain ⟨t199, A190, H⟩ := H
        replace H : (if t199 = true then (if ((rd_T37 l0_4 x7_2).f2) = 0 then (some 190) else (cambistref19_Check.l0 k2 (wrap64 (x7_2 + 1)) a0_0 a0_1 a0_2 a0_3 l0_4 a0_5)) else (some 190)) = some r := H
        have A19 := a_ A190
        clear A190
        by_cases c20 : t199 = true
        ·subst c20
         have H1 : (if ((rd_T37 l0_4 x7_2).f2) = 0 then (some 190) else (cambistref19_Check.l0 k2 (wrap64 (x7_2 + 1)) a0_0 a0_1 a0_2 a0_3 l0_4 a0_5)) = some r := by rw [if_pos rfl] at H; exact H
         clear H
         have H := H1
         clear H1
         by_cases c21 : ((rd_T37 l0_4 x7_2).f2) = 0
         ·rw [if_pos c21] at H
          have c21b0 : (((rd_T37 l0_4 x7_2).f2) == 0) = true := beq_iff_eq.mpr c21
          have c21b1 : (((rd_T37 l0_4 x7_2).f2) != 0) = false := bne_eq_false_iff_eq.mpr c21
          clear c21
          obtain rfl := Option.some.inj H
          have hcz22_0 : wr.cell? ⟨gb193, 0, none⟩ = some (.string a0_0) := (blk_cell BK193.out 0).trans rfl
          have hcz22_1 : wr.cell? ⟨gb193, 1, none⟩ = some (.string a0_1) := (blk_cell BK193.out 1).trans rfl
          have hcz22_2 : wr.cell? ⟨gb193, 2, none⟩ = some (.int .u64 a0_2) := (blk_cell BK193.out 2).trans rfl
          have hcz22_3 : wr.cell? ⟨gb193, 3, none⟩ = some (.int .i64 a0_3) := (blk_cell BK193.out 3).trans rfl
          have hcz22_4 : wr.cell? ⟨gb193, 4, none⟩ = some (.slice A0_4 l0_4.length c0_4) := (blk_cell BK193.out 4).trans rfl
          have hcz22_5 : wr.cell? ⟨gb193, 5, none⟩ = some (.int .i64 a0_5) := (blk_cell BK193.out 5).trans rfl
          have hfz22_0 := blk_frozen BK193.out 0
          have hfz22_1 := blk_frozen BK193.out 1
          have hfz22_2 := blk_frozen BK193.out 2
          have hfz22_3 := blk_frozen BK193.out 3
          have hfz22_4 := blk_frozen BK193.out 4
          have hfz22_5 := blk_frozen BK193.out 5
          have p198 : 0 ≤ (x7_2 : Int) := of_decide_eq_true z79_
          have q198 : x7_2 < (l0_4.length : Int) := of_decide_eq_true z79_
          obtain ⟨ad198, e198, hx198_0, hx198_1, hx198_2⟩ := at_T37 HR0_4.out x7_2 p198 q198
          cases e198
          replace hx198_0 := (HB.out.cell (World.block_lt_of_cell? w _ hx198_0)).trans hx198_0
          replace hx198_1 := (HB.out.cell (World.block_lt_of_cell? w _ hx198_1)).trans hx198_1
          replace hx198_2 := (HB.out.cell (World.block_lt_of_cell? w _ hx198_2)).trans hx198_2
          replace p198 := eq_true p198
          replace q198 := eq_true q198
          go_wp2_with (first | ((with_reducible refine gate_callee (f := 39) rfl ?_); refine goesL_ (some 55) rfl rfl Tryz.func39 z85_ rfl #[.string ((rd_T37 l0_4 x7_2).f1)] rfl z31_ ?_; (with_reducible refine (cambistref02_Word.calls k2 ((rd_T37 l0_4 x7_2).f1) true _ ?side1 A19.out).mono ?_); (case side1 => exact Glob.below HG.out z38_); rintro e w' ⟨rfl, ⟨nd, rfl⟩⟩; refine ⟨_, rfl, ?_⟩; have p200 : 0 ≤ (x7_2 : Int) := of_decide_eq_true z79_; have q200 : x7_2 < (l0_4.length : Int) := of_decide_eq_true z79_; obtain ⟨ad200, e200, hx200_0, hx200_1, hx200_2⟩ := at_T37 HR0_4.out x7_2 p200 q200; obtain rfl : ad198 = ad200 := (by injection e200); replace hx200_0 := (HB.out.cell (World.block_lt_of_cell? w _ hx200_0)).trans hx200_0; replace hx200_1 := (HB.out.cell (World.block_lt_of_cell? w _ hx200_1)).trans hx200_1; replace hx200_2 := (HB.out.cell (World.block_lt_of_cell? w _ hx200_2)).trans hx200_2; replace p200 := eq_true p200; replace q200 := eq_true q200))
          go_ret
          exact ⟨z76_, z38_⟩
         ·rw [if_neg c21] at H
          have c21b0 : (((rd_T37 l0_4 x7_2).f2) == 0) = false := beq_eq_false_iff_ne.mpr c21
          have c21b1 : (((rd_T37 l0_4 x7_2).f2) != 0) = true := bne_iff_ne.mpr c21
          have H' := a_ H
          clear H
          have hcz23_0 : wr.cell? ⟨gb193, 0, none⟩ = some (.string a0_0) := (blk_cell BK193.out 0).trans rfl
          have hcz23_1 : wr.cell? ⟨gb193, 1, none⟩ = some (.string a0_1) := (blk_cell BK193.out 1).trans rfl
          have hcz23_2 : wr.cell? ⟨gb193, 2, none⟩ = some (.int .u64 a0_2) := (blk_cell BK193.out 2).trans rfl
          have hcz23_3 : wr.cell? ⟨gb193, 3, none⟩ = some (.int .i64 a0_3) := (blk_cell BK193.out 3).trans rfl
          have hcz23_4 : wr.cell? ⟨gb193, 4, none⟩ = some (.slice A0_4 l0_4.length c0_4) := (blk_cell BK193.out 4).trans rfl
          have hcz23_5 : wr.cell? ⟨gb193, 5, none⟩ = some (.int .i64 a0_5) := (blk_cell BK193.out 5).trans rfl
          have hfz23_0 := blk_frozen BK193.out 0
          have hfz23_1 := blk_frozen BK193.out 1
          have hfz23_2 := blk_frozen BK193.out 2
          have hfz23_3 := blk_frozen BK193.out 3
          have hfz23_4 := blk_frozen BK193.out 4
          have hfz23_5 := blk_frozen BK193.out 5
          have p198 : 0 ≤ (x7_2 : Int) := of_decide_eq_true z79_
          have q198 : x7_2 < (l0_4.length : Int) := of_decide_eq_true z79_
          obtain ⟨ad198, e198, hx198_0, hx198_1, hx198_2⟩ := at_T37 HR0_4.out x7_2 p198 q198
          cases e198
          replace hx198_0 := (HB.out.cell (World.block_lt_of_cell? w _ hx198_0)).trans hx198_0
          replace hx198_1 := (HB.out.cell (World.block_lt_of_cell? w _ hx198_1)).trans hx198_1
          replace hx198_2 := (HB.out.cell (World.block_lt_of_cell? w _ hx198_2)).trans hx198_2
          replace p198 := eq_true p198
          replace q198 := eq_true q198
          go_wp2_with (first | ((with_reducible refine gate_callee (f := 39) rfl ?_); refine goesL_ (some 55) rfl rfl Tryz.func39 z85_ rfl #[.string ((rd_T37 l0_4 x7_2).f1)] rfl z31_ ?_; (with_reducible refine (cambistref02_Word.calls k2 ((rd_T37 l0_4 x7_2).f1) true _ ?side1 A19.out).mono ?_); (case side1 => exact Glob.below HG.out z38_); rintro e w' ⟨rfl, ⟨nd, rfl⟩⟩; refine ⟨_, rfl, ?_⟩; have p200 : 0 ≤ (x7_2 : Int) := of_decide_eq_true z79_; have q200 : x7_2 < (l0_4.length : Int) := of_decide_eq_true z79_; obtain ⟨ad200, e200, hx200_0, hx200_1, hx200_2⟩ := at_T37 HR0_4.out x7_2 p200 q200; obtain rfl : ad198 = ad200 := (by injection e200); replace hx200_0 := (HB.out.cell (World.block_lt_of_cell? w _ hx200_0)).trans hx200_0; replace hx200_1 := (HB.out.cell (World.block_lt_of_cell? w _ hx200_1)).trans hx200_1; replace hx200_2 := (HB.out.cell (World.block_lt_of_cell? w _ hx200_2)).trans hx200_2; replace p200 := eq_true p200; replace q200 := eq_true q200))
          go_roundg k2
          case measure => have := HJ4.out; have := HK2.out; omega
          case rel => exact ⟨(wrap64 (x7_2 + 1)), z80_, H', ⟨by have := HJ4.out; have := HK2.out; omega⟩, ⟨z67_⟩, ⟨z38_⟩⟩
        ·replace c20 := Bool.eq_false_iff.mpr c20
         subst c20
         have H1 : (some 190) = some r := by rw [if_neg (show ¬ (false = true) by decide)] at H; exact H
         clear H
         have H := H1
         clear H1
         obtain rfl := Option.some.inj H
         have hcz24_0 : wr.cell? ⟨gb193, 0, none⟩ = some (.string a0_0) := (blk_cell BK193.out 0).trans rfl
         have hcz24_1 : wr.cell? ⟨gb193, 1, none⟩ = some (.string a0_1) := (blk_cell BK193.out 1).trans rfl
         have hcz24_2 : wr.cell? ⟨gb193, 2, none⟩ = some (.int .u64 a0_2) := (blk_cell BK193.out 2).trans rfl
         have hcz24_3 : wr.cell? ⟨gb193, 3, none⟩ = some (.int .i64 a0_3) := (blk_cell BK193.out 3).trans rfl
         have hcz24_4 : wr.cell? ⟨gb193, 4, none⟩ = some (.slice A0_4 l0_4.length c0_4) := (blk_cell BK193.out 4).trans rfl
         have hcz24_5 : wr.cell? ⟨gb193, 5, none⟩ = some (.int .i64 a0_5) := (blk_cell BK193.out 5).trans rfl
         have hfz24_0 := blk_frozen BK193.out 0
         have hfz24_1 := blk_frozen BK193.out 1
         have hfz24_2 := blk_frozen BK193.out 2
         have hfz24_3 := blk_frozen BK193.out 3
         have hfz24_4 := blk_frozen BK193.out 4
         have hfz24_5 := blk_frozen BK193.out 5
         have p198 : 0 ≤ (x7_2 : Int) := of_decide_eq_true z79_
         have q198 : x7_2 < (l0_4.length : Int) := of_decide_eq_true z79_
         obtain ⟨ad198, e198, hx198_0, hx198_1, hx198_2⟩ := at_T37 HR0_4.out x7_2 p198 q198
         cases e198
         replace hx198_0 := (HB.out.cell (World.block_lt_of_cell? w _ hx198_0)).trans hx198_0
         replace hx198_1 := (HB.out.cell (World.block_lt_of_cell? w _ hx198_1)).trans hx198_1
         replace hx198_2 := (HB.out.cell (World.block_lt_of_cell? w _ hx198_2)).trans hx198_2
         replace p198 := eq_true p198
         replace q198 := eq_true q198
         go_wp2_with (first | ((with_reducible refine gate_callee (f := 39) rfl ?_); refine goesL_ (some 55) rfl rfl Tryz.func39 z85_ rfl #[.string ((rd_T37 l0_4 x7_2).f1)] rfl z31_ ?_; (with_reducible refine (cambistref02_Word.calls k2 ((rd_T37 l0_4 x7_2).f1) false _ ?side1 A19.out).mono ?_); (case side1 => exact Glob.below HG.out z38_); rintro e w' ⟨rfl, ⟨nd, rfl⟩⟩; refine ⟨_, rfl, ?_⟩))
         go_ret
         exact ⟨z76_, z38_⟩
       ·rw [if_neg c18] at H
        exact absurd H (by simp)
      ·rw [if_neg c17] at H
       have c17b0 : decide (x7_2 < (l0_4.length : Int)) = false := decide_eq_false c17
       clear c17
       obtain rfl := Option.some.inj H
       have hcz25_0 : wr.cell? ⟨gb193, 0, none⟩ = some (.string a0_0) := (blk_cell BK193.out 0).trans rfl
       have hcz25_1 : wr.cell? ⟨gb193, 1, none⟩ = some (.string a0_1) := (blk_cell BK193.out 1).trans rfl
       have hcz25_2 : wr.cell? ⟨gb193, 2, none⟩ = some (.int .u64 a0_2) := (blk_cell BK193.out 2).trans rfl
       have hcz25_3 : wr.cell? ⟨gb193, 3, none⟩ = some (.int .i64 a0_3) := (blk_cell BK193.out 3).trans rfl
       have hcz25_4 : wr.cell? ⟨gb193, 4, none⟩ = some (.slice A0_4 l0_4.length c0_4) := (blk_cell BK193.out 4).trans rfl
       have hcz25_5 : wr.cell? ⟨gb193, 5, none⟩ = some (.int .i64 a0_5) := (blk_cell BK193.out 5).trans rfl
       have hfz25_0 := blk_frozen BK193.out 0
       have hfz25_1 := blk_frozen BK193.out 1
       have hfz25_2 := blk_frozen BK193.out 2
       have hfz25_3 := blk_frozen BK193.out 3
       have hfz25_4 := blk_frozen BK193.out 4
       have hfz25_5 := blk_frozen BK193.out 5
       go_wp2
       go_ret
       exact ⟨z76_, z38_⟩

/-! ### cambistref19_Decimal: function 21 -/
def cambistref19_Decimal.l0 : Nat → Int → ByteArray → Option (ByteArray)
 | 0, _, _ => none
 | k + 1, x0, x3 => if x0 > 0 then ((some (([(IntKind.u64.wrap (48 + (Int.tmod x0 10))) % 256] : List Int) : List Int)).bind fun y204 => (if (strOfNums y204).size + x3.size ≤ 9223372036854775807 then (cambistref19_Decimal.l0 k (IntKind.u64.wrap (Int.tdiv x0 10)) ((strOfNums y204) ++ x3)) else (none))) else (some x3)
def cambistref19_Decimal.f (k : Nat) (a0 : Int) : Option (ByteArray) := cambistref19_Decimal.l0 k (IntKind.u64.wrap (Int.tdiv a0 10)) (strOfNums (([(IntKind.u64.wrap (48 + (Int.tmod a0 10))) % 256] : List Int)))
theorem cambistref19_Decimal.mono_l : ∀ k, (∀ y0 y1, LeO (cambistref19_Decimal.l0 k y0 y1) (cambistref19_Decimal.l0 (k + 1) y0 y1))
 | 0 => fun _ _ r h => by simp [cambistref19_Decimal.l0] at h
 | k + 1 => by
  have ih0 := cambistref19_Decimal.mono_l k
  ·intro y0 y1
   unfold cambistref19_Decimal.l0
   repeat' first
   | (with_reducible exact ih0 _ _)
   | (with_reducible first | exact LeO.refl _ | exact LeO.none _ | refine LeO.ite ?_ ?_ | refine LeO.bind ?_ fun _ => ?_)
   | exact ih0 _ _
theorem cambistref19_Decimal.mono : ∀ a0 k, LeO (cambistref19_Decimal.f k a0) (cambistref19_Decimal.f (k + 1) a0) := by
 intro a0 k
 have ih0 := cambistref19_Decimal.mono_l k
 unfold cambistref19_Decimal.f
 repeat' first
   | (with_reducible exact ih0 _ _)
   | (with_reducible first | exact LeO.refl _ | exact LeO.none _ | refine LeO.ite ?_ ?_ | refine LeO.bind ?_ fun _ => ?_)
   | exact ih0 _ _
set_option maxHeartbeats 8000000 in
set_option maxRecDepth 100000 in
theorem cambistref19_Decimal.calls (k : Nat) (a0 : Int) (r : ByteArray) (w : World) (hG : Glob w) (h : cambistref19_Decimal.f k a0 = some r) :
  Calls Tryz.prog 21 #[.int .u64 a0] w fun e w' => e = .returned (.string r) ∧ Below w.heap.size w w' := by
 have HG := a_ hG
 clear hG
 have HB := a_ (Below.refl w.heap.size w)
 have H : (cambistref19_Decimal.l0 k (IntKind.u64.wrap (Int.tdiv a0 10)) (strOfNums (([(IntKind.u64.wrap (48 + (Int.tmod a0 10))) % 256] : List Int)))) = some r := h
 clear h
 obtain ⟨y201, hy201⟩ : ∃ y_ : List Int, y_ = (([(IntKind.u64.wrap (48 + (Int.tmod a0 10))) % 256] : List Int)) := ⟨_, rfl⟩
 replace H : (cambistref19_Decimal.l0 k (IntKind.u64.wrap (Int.tdiv a0 10)) (strOfNums y201)) = some r := by first | (rw [hy201]; with_reducible exact H) | (have H2_ := (Option.bind_some _ _).symm.trans H; rw [hy201]; with_reducible exact H2_) | (have H2_ := (Option.bind_some _ _).symm.trans H; with_reducible exact H2_) | with_reducible exact H | (rw [hy201]; exact H) | exact H
 have Ny201 := a_ hy201
 clear hy201
 have H' := a_ H
 clear H
 go_enter Tryz.func21, Tryz.ntmps21
 go_wp2_with (first | ((with_reducible refine gate_dst (N := 8) rfl ?_); refine Kd.R_lit (Kd.int .u8) _ 5 ?hg (N := 8) ?hd (xs := ([(IntKind.u64.wrap (48 + (Int.tmod a0 10))) % 256] : List Int)) (inner := [.int .u8 ((IntKind.u64.wrap (48 + (Int.tmod a0 10))) % 256)]) (ok := fun _ => True) (okp := fun _ => True) ?hr ?hp (fun _ hk => hk) trivial (Below.refl _ _) (Nat.le_refl _) (by simp) ?_; (case hd => rfl); (case hg => rfl); (case hr => first | (go_simp; done) | (go_simp; rfl)); (case hp => exact (Reps.one (show Kd.M (Kd.int .u8) _ _ _ ((IntKind.u64.wrap (48 + (Int.tmod a0 10))) % 256) [.int .u8 ((IntKind.u64.wrap (48 + (Int.tmod a0 10))) % 256)] from rfl) (Reps.none _ _))); intro v202 w2 ho3 hb hg_ hnew_; clear hg_ hnew_; (first | rw [← Ny201.out] at ho3 | (simp only [Int.reduceToNat] at ho3; rw [← Ny201.out] at ho3)); have n0_ := a_ (Kd.R_lower ho3 (below_size z45_)); have n1_ := a_ (below_step z45_ hb); clear HB; have HO203 := n0_; have HB := n1_; clear n0_ n1_; clear hb ho3; have hcv4 := own_string (P := Tryz.prog) Tryz.underlying48 Tryz.underlying5 Tryz.underlying9 (Kd.own_of_R HO203.out)))
 go_loopg [0, 3] k (fun kq v0 v3 w' => ∃ (x0_1 : Int) (x3_1 : ByteArray), v0 = .int .u64 x0_1 ∧ v3 = .string x3_1 ∧ Aside0 (cambistref19_Decimal.l0 kq x0_1 x3_1 = some r) ∧ Aside0 (kq ≤ k) ∧ Aside0 (Below w.heap.size w w'))
 case atStart => exact ⟨(IntKind.u64.wrap (Int.tdiv a0 10)), (strOfNums y201), z80_, z80_, H', ⟨Nat.le_refl _⟩, ⟨z45_⟩⟩
 case round =>
  clear H'
  try clear c2
  try clear p2
  try clear hcv4
  obtain ⟨x0_1, x3_1, rfl, rfl, HA, HK1, HB⟩ := hrel
  cases gk with
  | zero => exact absurd HA.out (by simp [cambistref19_Decimal.l0])
  | succ k1 =>
   have H := HA.out
   clear HA
   simp only [cambistref19_Decimal.l0] at H
   by_cases c5 : x0_1 > 0
   ·rw [if_pos c5] at H
    have c5b0 : decide (0 < x0_1) = true := decide_eq_true c5
    clear c5
    obtain ⟨y204, hy204⟩ : ∃ y_ : List Int, y_ = (([(IntKind.u64.wrap (48 + (Int.tmod x0_1 10))) % 256] : List Int)) := ⟨_, rfl⟩
    replace H : (if (strOfNums y204).size + x3_1.size ≤ 9223372036854775807 then (cambistref19_Decimal.l0 k1 (IntKind.u64.wrap (Int.tdiv x0_1 10)) ((strOfNums y204) ++ x3_1)) else (none)) = some r := by first | (rw [hy204]; with_reducible exact H) | (have H2_ := (Option.bind_some _ _).symm.trans H; rw [hy204]; with_reducible exact H2_) | (have H2_ := (Option.bind_some _ _).symm.trans H; with_reducible exact H2_) | with_reducible exact H | (rw [hy204]; exact H) | exact H
    have Ny204 := a_ hy204
    clear hy204
    by_cases c6 : (strOfNums y204).size + x3_1.size ≤ 9223372036854775807
    ·rw [if_pos c6] at H
     have c6b0 := eq_true c6
     have c6b1 : decide ((strOfNums y204).size + x3_1.size ≤ 9223372036854775807) = true := decide_eq_true c6
     try have c6b2 : (9223372036854775807 < (strOfNums y204).size + x3_1.size) = False := eq_false (Nat.not_lt.2 c6)
     have H' := a_ H
     clear H
     go_wp2_with (first | ((with_reducible refine gate_dst (N := 20) rfl ?_); refine Kd.R_lit (Kd.int .u8) _ 5 ?hg (N := 20) ?hd (xs := ([(IntKind.u64.wrap (48 + (Int.tmod x0_1 10))) % 256] : List Int)) (inner := [.int .u8 ((IntKind.u64.wrap (48 + (Int.tmod x0_1 10))) % 256)]) (ok := fun _ => True) (okp := fun _ => True) ?hr ?hp (fun _ hk => hk) trivial (Below.refl _ _) (Nat.le_refl _) (by simp) ?_; (case hd => rfl); (case hg => rfl); (case hr => first | (go_simp; done) | (go_simp; rfl)); (case hp => exact (Reps.one (show Kd.M (Kd.int .u8) _ _ _ ((IntKind.u64.wrap (48 + (Int.tmod x0_1 10))) % 256) [.int .u8 ((IntKind.u64.wrap (48 + (Int.tmod x0_1 10))) % 256)] from rfl) (Reps.none _ _))); intro v205 w7 ho8 hb hg_ hnew_; clear hg_ hnew_; (first | rw [← Ny204.out] at ho8 | (simp only [Int.reduceToNat] at ho8; rw [← Ny204.out] at ho8)); have n0_ := a_ (Kd.R_lower ho8 (below_size z45_)); have n1_ := a_ (below_step z45_ hb); clear HB; have HO206 := n0_; have HB := n1_; clear n0_ n1_; clear hb ho8; have hcv9 := own_string (P := Tryz.prog) Tryz.underlying48 Tryz.underlying5 Tryz.underlying9 (Kd.own_of_R HO206.out)))
     go_roundg k1
     case measure => have := HK1.out; omega
     case rel => exact ⟨(IntKind.u64.wrap (Int.tdiv x0_1 10)), ((strOfNums y204) ++ x3_1), z80_, z80_, H', ⟨z84_⟩, ⟨z45_⟩⟩
    ·rw [if_neg c6] at H
     exact absurd H (by simp)
   ·rw [if_neg c5] at H
    have c5b0 : decide (0 < x0_1) = false := decide_eq_false c5
    clear c5
    obtain rfl := Option.some.inj H
    go_wp2
    go_ret
    exact ⟨z76_, z45_⟩

/-! ### cambistref01_size: function 45 -/
def cambistref01_size.f (a0 : Int) : Option (Int) := if a0 < 0 then (some (IntKind.u64.wrap ((IntKind.u64.wrap (wrap64 (-(wrap64 (a0 + 1))))) + 1))) else (some (IntKind.u64.wrap (a0)))
set_option maxHeartbeats 8000000 in
set_option maxRecDepth 100000 in
theorem cambistref01_size.calls (a0 : Int) (r : Int) (w : World) (hG : Glob w) (h : cambistref01_size.f a0 = some r) :
  Calls Tryz.prog 45 #[.int .i64 a0] w fun e w' => e = .returned (.int .u64 r) ∧ Drawn0 w w' := by
 have HG := a_ hG
 clear hG
 have H : (if a0 < 0 then (some (IntKind.u64.wrap ((IntKind.u64.wrap (wrap64 (-(wrap64 (a0 + 1))))) + 1))) else (some (IntKind.u64.wrap (a0)))) = some r := h
 clear h
 by_cases c2 : a0 < 0
 ·rw [if_pos c2] at H
  have c2b0 : decide (a0 < 0) = true := decide_eq_true c2
  clear c2
  obtain rfl := Option.some.inj H
  go_enter Tryz.func45, Tryz.ntmps45
  go_wp2
  go_ret
  exact ⟨z80_, z78_⟩
 ·rw [if_neg c2] at H
  have c2b0 : decide (a0 < 0) = false := decide_eq_false c2
  clear c2
  obtain rfl := Option.some.inj H
  go_enter Tryz.func45, Tryz.ntmps45
  go_wp2
  go_ret
  exact ⟨z80_, z78_⟩

/-! ### cambistref01_Text: function 22 -/
def cambistref01_Text.l0 : Nat → Int → Int → ByteArray → Option (ByteArray)
 | 0, _, _, _ => none
 | k + 1, x0, x3, x4 => if x3 > 0 then ((some (([(IntKind.u64.wrap (48 + (Int.tmod x3 10))) % 256] : List Int) : List Int)).bind fun y211 => (if (strOfNums y211).size + x4.size ≤ 9223372036854775807 then (cambistref01_Text.l0 k x0 (IntKind.u64.wrap (Int.tdiv x3 10)) ((strOfNums y211) ++ x4)) else (none))) else (if x0 < 0 then (if 1 + x4.size ≤ 9223372036854775807 then (some ((⟨#[45]⟩ : ByteArray) ++ x4)) else (none)) else (some x4))
def cambistref01_Text.f (k : Nat) (a0 : Int) : Option (ByteArray) := (cambistref01_size.f a0).bind fun t207 => (cambistref01_Text.l0 k a0 (IntKind.u64.wrap (Int.tdiv t207 10)) (strOfNums (([(IntKind.u64.wrap (48 + (Int.tmod t207 10))) % 256] : List Int))))
theorem cambistref01_Text.mono_l : ∀ k, (∀ y0 y1 y2, LeO (cambistref01_Text.l0 k y0 y1 y2) (cambistref01_Text.l0 (k + 1) y0 y1 y2))
 | 0 => fun _ _ _ r h => by simp [cambistref01_Text.l0] at h
 | k + 1 => by
  have ih0 := cambistref01_Text.mono_l k
  ·intro y0 y1 y2
   unfold cambistref01_Text.l0
   repeat' first
   | (with_reducible exact ih0 _ _ _)
   | (with_reducible first | exact LeO.refl _ | exact LeO.none _ | refine LeO.ite ?_ ?_ | refine LeO.bind ?_ fun _ => ?_)
   | exact ih0 _ _ _
theorem cambistref01_Text.mono : ∀ a0 k, LeO (cambistref01_Text.f k a0) (cambistref01_Text.f (k + 1) a0) := by
 intro a0 k
 have ih0 := cambistref01_Text.mono_l k
 unfold cambistref01_Text.f
 repeat' first
   | (with_reducible exact ih0 _ _ _)
   | (with_reducible first | exact LeO.refl _ | exact LeO.none _ | refine LeO.ite ?_ ?_ | refine LeO.bind ?_ fun _ => ?_)
   | exact ih0 _ _ _
set_option maxHeartbeats 8000000 in
set_option maxRecDepth 100000 in
theorem cambistref01_Text.calls (k : Nat) (a0 : Int) (r : ByteArray) (w : World) (hG : Glob w) (h : cambistref01_Text.f k a0 = some r) :
  Calls Tryz.prog 22 #[.int .i64 a0] w fun e w' => e = .returned (.string r) ∧ Below w.heap.size w w' := by
 have HG := a_ hG
 clear hG
 have HB := a_ (Below.refl w.heap.size w)
 have H : ((cambistref01_size.f a0).bind fun t207 => (cambistref01_Text.l0 k a0 (IntKind.u64.wrap (Int.tdiv t207 10)) (strOfNums (([(IntKind.u64.wrap (48 + (Int.tmod t207 10))) % 256] : List Int))))) = some r := h
 clear h
 replace H := Option.bind_eq_some_iff.mp H
 obtain ⟨t207, A20, H⟩ := H
 replace H : (cambistref01_Text.l0 k a0 (IntKind.u64.wrap (Int.tdiv t207 10)) (strOfNums (([(IntKind.u64.wrap (48 + (Int.tmod t207 10))) % 256] : List Int)))) = some r := H
 have A2 := a_ A20
 clear A20
 obtain ⟨y208, hy208⟩ : ∃ y_ : List Int, y_ = (([(IntKind.u64.wrap (48 + (Int.tmod t207 10))) % 256] : List Int)) := ⟨_, rfl⟩
 replace H : (cambistref01_Text.l0 k a0 (IntKind.u64.wrap (Int.tdiv t207 10)) (strOfNums y208)) = some r := by first | (rw [hy208]; with_reducible exact H) | (have H2_ := (Option.bind_some _ _).symm.trans H; rw [hy208]; with_reducible exact H2_) | (have H2_ := (Option.bind_some _ _).symm.trans H; with_reducible exact H2_) | with_reducible exact H | (rw [hy208]; exact H) | exact H
 have Ny208 := a_ hy208
 clear hy208
 have H' := a_ H
 clear H
 go_enter Tryz.func22, Tryz.ntmps22
 go_wp2_with (first | ((with_reducible refine gate_callee (f := 45) rfl ?_); refine goesL_ (some 6) rfl rfl Tryz.func45 z85_ rfl #[.int .i64 a0] rfl z31_ ?_; (with_reducible refine (cambistref01_size.calls a0 t207 _ ?side1 A2.out).mono ?_); (case side1 => exact Glob.below HG.out z45_); rintro e w' ⟨rfl, ⟨nd, rfl⟩⟩; refine ⟨_, rfl, ?_⟩) | ((with_reducible refine gate_dst (N := 11) rfl ?_); refine Kd.R_lit (Kd.int .u8) _ 5 ?hg (N := 11) ?hd (xs := ([(IntKind.u64.wrap (48 + (Int.tmod t207 10))) % 256] : List Int)) (inner := [.int .u8 ((IntKind.u64.wrap (48 + (Int.tmod t207 10))) % 256)]) (ok := fun _ => True) (okp := fun _ => True) ?hr ?hp (fun _ hk => hk) trivial (Below.refl _ _) (Nat.le_refl _) (by simp) ?_; (case hd => rfl); (case hg => rfl); (case hr => first | (go_simp; done) | (go_simp; rfl)); (case hp => exact (Reps.one (show Kd.M (Kd.int .u8) _ _ _ ((IntKind.u64.wrap (48 + (Int.tmod t207 10))) % 256) [.int .u8 ((IntKind.u64.wrap (48 + (Int.tmod t207 10))) % 256)] from rfl) (Reps.none _ _))); intro v209 w3 ho4 hb hg_ hnew_; clear hg_ hnew_; (first | rw [← Ny208.out] at ho4 | (simp only [Int.reduceToNat] at ho4; rw [← Ny208.out] at ho4)); have n0_ := a_ (Kd.R_lower ho4 (below_size z45_)); have n1_ := a_ (below_step z45_ hb); clear HB; have HO210 := n0_; have HB := n1_; clear n0_ n1_; clear hb ho4; have hcv5 := own_string (P := Tryz.prog) Tryz.underlying48 Tryz.underlying5 Tryz.underlying9 (Kd.own_of_R HO210.out)))
 go_loopg [3, 4] k (fun kq v3 v4 w' => ∃ (x3_1 : Int) (x4_1 : ByteArray), v3 = .int .u64 x3_1 ∧ v4 = .string x4_1 ∧ Aside0 (cambistref01_Text.l0 kq a0 x3_1 x4_1 = some r) ∧ Aside0 (kq ≤ k) ∧ Aside0 (Below w.heap.size w w'))
 case atStart => exact ⟨(IntKind.u64.wrap (Int.tdiv t207 10)), (strOfNums y208), z80_, z80_, H', ⟨Nat.le_refl _⟩, ⟨z45_⟩⟩
 case round =>
  clear H'
  try clear c2
  try clear p2
  try clear c4
  try clear hcv5
  obtain ⟨x3_1, x4_1, rfl, rfl, HA, HK1, HB⟩ := hrel
  cases gk with
  | zero => exact absurd HA.out (by simp [cambistref01_Text.l0])
  | succ k1 =>
   have H := HA.out
   clear HA
   simp only [cambistref01_Text.l0] at H
   by_cases c6 : x3_1 > 0
   ·rw [if_pos c6] at H
    have c6b0 : decide (0 < x3_1) = true := decide_eq_true c6
    clear c6
    obtain ⟨y211, hy211⟩ : ∃ y_ : List Int, y_ = (([(IntKind.u64.wrap (48 + (Int.tmod x3_1 10))) % 256] : List Int)) := ⟨_, rfl⟩
    replace H : (if (strOfNums y211).size + x4_1.size ≤ 9223372036854775807 then (cambistref01_Text.l0 k1 a0 (IntKind.u64.wrap (Int.tdiv x3_1 10)) ((strOfNums y211) ++ x4_1)) else (none)) = some r := by first | (rw [hy211]; with_reducible exact H) | (have H2_ := (Option.bind_some _ _).symm.trans H; rw [hy211]; with_reducible exact H2_) | (have H2_ := (Option.bind_some _ _).symm.trans H; with_reducible exact H2_) | with_reducible exact H | (rw [hy211]; exact H) | exact H
    have Ny211 := a_ hy211
    clear hy211
    by_cases c7 : (strOfNums y211).size + x4_1.size ≤ 9223372036854775807
    ·rw [if_pos c7] at H
     have c7b0 := eq_true c7
     have c7b1 : decide ((strOfNums y211).size + x4_1.size ≤ 9223372036854775807) = true := decide_eq_true c7
     try have c7b2 : (9223372036854775807 < (strOfNums y211).size + x4_1.size) = False := eq_false (Nat.not_lt.2 c7)
     have H' := a_ H
     clear H
     go_wp2_with (first | ((with_reducible refine gate_dst (N := 23) rfl ?_); refine Kd.R_lit (Kd.int .u8) _ 5 ?hg (N := 23) ?hd (xs := ([(IntKind.u64.wrap (48 + (Int.tmod x3_1 10))) % 256] : List Int)) (inner := [.int .u8 ((IntKind.u64.wrap (48 + (Int.tmod x3_1 10))) % 256)]) (ok := fun _ => True) (okp := fun _ => True) ?hr ?hp (fun _ hk => hk) trivial (Below.refl _ _) (Nat.le_refl _) (by simp) ?_; (case hd => rfl); (case hg => rfl); (case hr => first | (go_simp; done) | (go_simp; rfl)); (case hp => exact (Reps.one (show Kd.M (Kd.int .u8) _ _ _ ((IntKind.u64.wrap (48 + (Int.tmod x3_1 10))) % 256) [.int .u8 ((IntKind.u64.wrap (48 + (Int.tmod x3_1 10))) % 256)] from rfl) (Reps.none _ _))); intro v212 w8 ho9 hb hg_ hnew_; clear hg_ hnew_; (first | rw [← Ny211.out] at ho9 | (simp only [Int.reduceToNat] at ho9; rw [← Ny211.out] at ho9)); have n0_ := a_ (Kd.R_lower ho9 (below_size z45_)); have n1_ := a_ (below_step z45_ hb); clear HB; have HO213 := n0_; have HB := n1_; clear n0_ n1_; clear hb ho9; have hcv10 := own_string (P := Tryz.prog) Tryz.underlying48 Tryz.underlying5 Tryz.underlying9 (Kd.own_of_R HO213.out)))
     go_roundg k1
     case measure => have := HK1.out; omega
     case rel => exact ⟨(IntKind.u64.wrap (Int.tdiv x3_1 10)), ((strOfNums y211) ++ x4_1), z80_, z80_, H', ⟨z84_⟩, ⟨z45_⟩⟩
    ·rw [if_neg c7] at H
     exact absurd H (by simp)
   ·rw [if_neg c6] at H
    have c6b0 : decide (0 < x3_1) = false := decide_eq_false c6
    clear c6
    by_cases c11 : a0 < 0
    ·rw [if_pos c11] at H
     have c11b0 : decide (a0 < 0) = true := decide_eq_true c11
     clear c11
     by_cases c12 : 1 + x4_1.size ≤ 9223372036854775807
     ·rw [if_pos c12] at H
      have c12b0 := eq_true c12
      have c12b1 : decide (1 + x4_1.size ≤ 9223372036854775807) = true := decide_eq_true c12
      try have c12b2 : (9223372036854775807 < 1 + x4_1.size) = False := eq_false (Nat.not_lt.2 c12)
      obtain rfl := Option.some.inj H
      go_wp2
      go_ret
      exact ⟨z76_, z45_⟩
     ·rw [if_neg c12] at H
      exact absurd H (by simp)
    ·rw [if_neg c11] at H
     have c11b0 : decide (a0 < 0) = false := decide_eq_false c11
     clear c11
     obtain rfl := Option.some.inj H
     go_wp2
     go_ret
     exact ⟨z76_, z45_⟩

end Go.Proofs.YtnngbnhbmgdkoaaGreatDoor.P
