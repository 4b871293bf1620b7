-- Laid by wip/tools/cprint.py of this claim's own repo (over the kit's print).
import Derived.Test.YtjlifcbddednaaaGreatDoorSq
import Derived.Test.YtjlifcbddednaaaGreatDoorPx0
import Derived.Test.YtjlifcbddednaaaGreatDoorPx9
namespace Go.Proofs.YtjlifcbddednaaaGreatDoor.P
open Go.RowKit Go.Proofs.YtjlifcbddednaaaGreatDoor.E Go.Proofs.YtjlifcbddednaaaGreatDoorW.PrintWords Go.Proofs.YtjlifcbddednaaaGreatDoorW.PrintLast
set_option linter.unusedVariables false
set_option linter.unusedSimpArgs false

/-! ### cambistref02_part: function 50 -/
def cambistref02_part.l0 : Nat → ByteArray → Int → Int → Option (Bool)
 | 0, _, _, _ => none
 | k + 1, x0, x1, x5 => if x5 < (x0.size : Int) then (if 0 ≤ x5 then ((cambistref02_within.f (bt x0 x5) 97 122).bind fun t261 => (if t261 = true then (cambistref02_part.l0 k x0 x1 (wrap64 (x5 + 1))) else ((cambistref02_within.f (bt x0 x5) 65 90).bind fun t262 => (if t262 = true then (cambistref02_part.l0 k x0 x1 (wrap64 (x5 + 1))) else ((cambistref02_within.f (bt x0 x5) 48 57).bind fun t263 => (if t263 = true then (cambistref02_part.l0 k x0 x1 (wrap64 (x5 + 1))) else (if ((bt x0 x5) = 45) then (cambistref02_part.l0 k x0 x1 (wrap64 (x5 + 1))) else (some false)))))))) else (none)) else (if (x0.size : Int) ≥ 1 then (some (decide ((x0.size : Int) ≤ x1))) else (some false))
def cambistref02_part.f (k : Nat) (a0 : ByteArray) (a1 : Int) : Option (Bool) := cambistref02_part.l0 k a0 a1 0
theorem cambistref02_part.mono_l : ∀ k, (∀ y0 y1 y2, LeO (cambistref02_part.l0 k y0 y1 y2) (cambistref02_part.l0 (k + 1) y0 y1 y2))
 | 0 => fun _ _ _ r h => by simp [cambistref02_part.l0] at h
 | k + 1 => by
  have ih0 := cambistref02_part.mono_l k
  ·intro y0 y1 y2
   unfold cambistref02_part.l0
   repeat' first
   | (with_reducible exact ih0 _ _ _)
   | (with_reducible first | exact LeO.refl _ | exact LeO.none _ | refine LeO.ite ?_ ?_ | refine LeO.bind ?_ fun _ => ?_)
   | exact ih0 _ _ _
theorem cambistref02_part.mono : ∀ a0 a1 k, LeO (cambistref02_part.f k a0 a1) (cambistref02_part.f (k + 1) a0 a1) := by
 intro a0 a1 k
 have ih0 := cambistref02_part.mono_l k
 unfold cambistref02_part.f
 repeat' first
   | (with_reducible exact ih0 _ _ _)
   | (with_reducible first | exact LeO.refl _ | exact LeO.none _ | refine LeO.ite ?_ ?_ | refine LeO.bind ?_ fun _ => ?_)
   | exact ih0 _ _ _
set_option maxHeartbeats 8000000 in
set_option maxRecDepth 100000 in
theorem cambistref02_part.calls (k : Nat) (a0 : ByteArray) (a1 : Int) (r : Bool) (w : World) (hG : Glob w) (h : cambistref02_part.f k a0 a1 = some r) :
  Calls Tryz.prog 50 #[.string a0, .int .i64 a1] w fun e w' => e = .returned (.bool r) ∧ Drawn0 w w' := by
 have HG := a_ hG
 clear hG
 have H : (cambistref02_part.l0 k a0 a1 0) = some r := h
 clear h
 have H' := a_ H
 clear H
 go_enter Tryz.func50, Tryz.ntmps50
 go_wp2
 go_loopg [5] k (fun kq v5 w' => ∃ (x5_1 : Int), v5 = .int .i64 x5_1 ∧ Aside0 (cambistref02_part.l0 kq a0 a1 x5_1 = some r) ∧ Aside0 (kq ≤ k) ∧ Drawn0 w w')
 case atStart => exact ⟨(0), z71_, H', ⟨Nat.le_refl _⟩, z67_⟩
 case round =>
  clear H'
  try clear p2
  obtain ⟨x5_1, rfl, HA, HK1, ⟨m1, rfl⟩⟩ := hrel
  cases gk with
  | zero => exact absurd HA.out (by simp [cambistref02_part.l0])
  | succ k1 =>
   have H := HA.out
   clear HA
   simp only [cambistref02_part.l0] at H
   by_cases c3 : x5_1 < (a0.size : Int)
   ·rw [if_pos c3] at H
    have c3b0 : decide (x5_1 < (a0.size : Int)) = true := decide_eq_true c3
    clear c3
    by_cases c4 : 0 ≤ x5_1
    ·rw [if_pos c4] at H
     have c4b0 : decide (0 ≤ x5_1) = true := decide_eq_true c4
     clear c4
     replace H := Option.bind_eq_some_iff.mp H
     obtain ⟨t261, A60, H⟩ := H
     replace H : (if t261 = true then (cambistref02_part.l0 k1 a0 a1 (wrap64 (x5_1 + 1))) else ((cambistref02_within.f (bt a0 x5_1) 65 90).bind fun t262 => (if t262 = true then (cambistref02_part.l0 k1 a0 a1 (wrap64 (x5_1 + 1))) else ((cambistref02_within.f (bt a0 x5_1) 48 57).bind fun t263 => (if t263 = true then (cambistref02_part.l0 k1 a0 a1 (wrap64 (x5_1 + 1))) else (if ((bt a0 x5_1) = 45) then (cambistref02_part.l0 k1 a0 a1 (wrap64 (x5_1 + 1))) else (some false))))))) = some r := H
     have A6 := a_ A60
     clear A60
     by_cases c7 : t261 = true
     ·subst c7
      have H1 : (cambistref02_part.l0 k1 a0 a1 (wrap64 (x5_1 + 1))) = some r := by rw [if_pos rfl] at H; exact H
      clear H
      have H := H1
      clear H1
      have H' := a_ H
      clear H
      have p5 : 0 ≤ (x5_1 : Int) := of_decide_eq_true z70_
      have q5 : x5_1 < (a0.size : Int) := of_decide_eq_true z70_
      have hx5 := bt_at a0 x5_1
      replace p5 := eq_true p5
      replace q5 := eq_true q5
      go_wp2_with (first | ((with_reducible refine gate_callee (f := 63) rfl ?_); refine goesL_ (some 16) rfl rfl Tryz.func63 z74_ rfl #[.int .u8 (bt a0 x5_1), .int .u8 97, .int .u8 122] rfl z19_ ?_; (with_reducible refine (cambistref02_within.calls (bt a0 x5_1) 97 122 true _ ?side1 A6.out).mono ?_); (case side1 => (repeat (first | exact HG.out | apply Glob.drewN | apply Glob.drew))); rintro e w' ⟨rfl, ⟨nd, rfl⟩⟩; refine ⟨_, rfl, ?_⟩))
      go_roundg k1
      case measure => have := HK1.out; omega
      case rel => exact ⟨(wrap64 (x5_1 + 1)), z71_, H', ⟨z73_⟩, z67_⟩
     ·replace c7 := Bool.eq_false_iff.mpr c7
      subst c7
      have H1 : ((cambistref02_within.f (bt a0 x5_1) 65 90).bind fun t262 => (if t262 = true then (cambistref02_part.l0 k1 a0 a1 (wrap64 (x5_1 + 1))) else ((cambistref02_within.f (bt a0 x5_1) 48 57).bind fun t263 => (if t263 = true then (cambistref02_part.l0 k1 a0 a1 (wrap64 (x5_1 + 1))) else (if ((bt a0 x5_1) = 45) then (cambistref02_part.l0 k1 a0 a1 (wrap64 (x5_1 + 1))) else (some false)))))) = some r := by rw [if_neg (show ¬ (false = true) by decide)] at H; exact H
      clear H
      have H := H1
      clear H1
      replace H := Option.bind_eq_some_iff.mp H
      obtain ⟨t262, A90, H⟩ := H
      replace H : (if t262 = true then (cambistref02_part.l0 k1 a0 a1 (wrap64 (x5_1 + 1))) else ((cambistref02_within.f (bt a0 x5_1) 48 57).bind fun t263 => (if t263 = true then (cambistref02_part.l0 k1 a0 a1 (wrap64 (x5_1 + 1))) else (if ((bt a0 x5_1) = 45) then (cambistref02_part.l0 k1 a0 a1 (wrap64 (x5_1 + 1))) else (some false))))) = some r := H
      have A9 := a_ A90
      clear A90
      by_cases c10 : t262 = true
      ·subst c10
       have H1 : (cambistref02_part.l0 k1 a0 a1 (wrap64 (x5_1 + 1))) = some r := by rw [if_pos rfl] at H; exact H
       clear H
       have H := H1
       clear H1
       have H' := a_ H
       clear H
       have p5 : 0 ≤ (x5_1 : Int) := of_decide_eq_true z70_
       have q5 : x5_1 < (a0.size : Int) := of_decide_eq_true z70_
       have hx5 := bt_at a0 x5_1
       replace p5 := eq_true p5
       replace q5 := eq_true q5
       go_wp2_with (first | ((with_reducible refine gate_callee (f := 63) rfl ?_); refine goesL_ (some 16) rfl rfl Tryz.func63 z74_ rfl #[.int .u8 (bt a0 x5_1), .int .u8 97, .int .u8 122] rfl z19_ ?_; (with_reducible refine (cambistref02_within.calls (bt a0 x5_1) 97 122 false _ ?side1 A6.out).mono ?_); (case side1 => (repeat (first | exact HG.out | apply Glob.drewN | apply Glob.drew))); rintro e w' ⟨rfl, ⟨nd, rfl⟩⟩; refine ⟨_, rfl, ?_⟩; have p8 : 0 ≤ (x5_1 : Int) := of_decide_eq_true z70_; have q8 : x5_1 < (a0.size : Int) := of_decide_eq_true z70_; have hx8 := bt_at a0 x5_1; replace p8 := eq_true p8; replace q8 := eq_true q8) | (go_at_call 63; (with_reducible refine (cambistref02_within.calls (bt a0 x5_1) 65 90 true _ ?side1 A9.out).mono ?_); (case side1 => (repeat (first | exact HG.out | apply Glob.drewN | apply Glob.drew))); rintro e w' ⟨rfl, ⟨nd, rfl⟩⟩))
       go_roundg k1
       case measure => have := HK1.out; omega
       case rel => exact ⟨(wrap64 (x5_1 + 1)), z71_, H', ⟨z73_⟩, z67_⟩
      ·replace c10 := Bool.eq_false_iff.mpr c10
       subst c10
       have H1 : ((cambistref02_within.f (bt a0 x5_1) 48 57).bind fun t263 => (if t263 = true then (cambistref02_part.l0 k1 a0 a1 (wrap64 (x5_1 + 1))) else (if ((bt a0 x5_1) = 45) then (cambistref02_part.l0 k1 a0 a1 (wrap64 (x5_1 + 1))) else (some false)))) = some r := by rw [if_neg (show ¬ (false = true) by decide)] at H; exact H
       clear H
       have H := H1
       clear H1
       replace H := Option.bind_eq_some_iff.mp H
       obtain ⟨t263, A120, H⟩ := H
       replace H : (if t263 = true then (cambistref02_part.l0 k1 a0 a1 (wrap64 (x5_1 + 1))) else (if ((bt a0 x5_1) = 45) then (cambistref02_part.l0 k1 a0 a1 (wrap64 (x5_1 + 1))) else (some false))) = some r := H
       have A12 := a_ A120
       clear A120
       by_cases c13 : t263 = true
       ·subst c13
        have H1 : (cambistref02_part.l0 k1 a0 a1 (wrap64 (x5_1 + 1))) = some r := by rw [if_pos rfl] at H; exact H
        clear H
        have H := H1
        clear H1
        have H' := a_ H
        clear H
        have p5 : 0 ≤ (x5_1 : Int) := of_decide_eq_true z70_
        have q5 : x5_1 < (a0.size : Int) := of_decide_eq_true z70_
        have hx5 := bt_at a0 x5_1
        replace p5 := eq_true p5
        replace q5 := eq_true q5
        go_wp2_with (first | ((with_reducible refine gate_callee (f := 63) rfl ?_); refine goesL_ (some 16) rfl rfl Tryz.func63 z74_ rfl #[.int .u8 (bt a0 x5_1), .int .u8 97, .int .u8 122] rfl z19_ ?_; (with_reducible refine (cambistref02_within.calls (bt a0 x5_1) 97 122 false _ ?side1 A6.out).mono ?_); (case side1 => (repeat (first | exact HG.out | apply Glob.drewN | apply Glob.drew))); rintro e w' ⟨rfl, ⟨nd, rfl⟩⟩; refine ⟨_, rfl, ?_⟩; have p8 : 0 ≤ (x5_1 : Int) := of_decide_eq_true z70_; have q8 : x5_1 < (a0.size : Int) := of_decide_eq_true z70_; have hx8 := bt_at a0 x5_1; replace p8 := eq_true p8; replace q8 := eq_true q8) | (go_at_call 63; (with_reducible refine (cambistref02_within.calls (bt a0 x5_1) 65 90 false _ ?side1 A9.out).mono ?_); (case side1 => (repeat (first | exact HG.out | apply Glob.drewN | apply Glob.drew))); rintro e w' ⟨rfl, ⟨nd, rfl⟩⟩; have p11 : 0 ≤ (x5_1 : Int) := of_decide_eq_true z70_; have q11 : x5_1 < (a0.size : Int) := of_decide_eq_true z70_; have hx11 := bt_at a0 x5_1; replace p11 := eq_true p11; replace q11 := eq_true q11) | (go_at_call 63; (with_reducible refine (cambistref02_within.calls (bt a0 x5_1) 48 57 true _ ?side1 A12.out).mono ?_); (case side1 => (repeat (first | exact HG.out | apply Glob.drewN | apply Glob.drew))); rintro e w' ⟨rfl, ⟨nd, rfl⟩⟩))
        go_roundg k1
        case measure => have := HK1.out; omega
        case rel => exact ⟨(wrap64 (x5_1 + 1)), z71_, H', ⟨z73_⟩, z67_⟩
       ·replace c13 := Bool.eq_false_iff.mpr c13
        subst c13
        have H1 : (if ((bt a0 x5_1) = 45) then (cambistref02_part.l0 k1 a0 a1 (wrap64 (x5_1 + 1))) else (some false)) = some r := by rw [if_neg (show ¬ (false = true) by decide)] at H; exact H
        clear H
        have H := H1
        clear H1
        by_cases c15 : ((bt a0 x5_1) = 45)
        ·rw [if_pos c15] at H
         have c15b0 : ((bt a0 x5_1) == 45) = true := beq_iff_eq.mpr c15
         have c15b1 : ((bt a0 x5_1) != 45) = false := bne_eq_false_iff_eq.mpr c15
         clear c15
         have H' := a_ H
         clear H
         have p5 : 0 ≤ (x5_1 : Int) := of_decide_eq_true z70_
         have q5 : x5_1 < (a0.size : Int) := of_decide_eq_true z70_
         have hx5 := bt_at a0 x5_1
         replace p5 := eq_true p5
         replace q5 := eq_true q5
         go_wp2_with (first | ((with_reducible refine gate_callee (f := 63) rfl ?_); refine goesL_ (some 16) rfl rfl Tryz.func63 z74_ rfl #[.int .u8 (bt a0 x5_1), .int .u8 97, .int .u8 122] rfl z19_ ?_; (with_reducible refine (cambistref02_within.calls (bt a0 x5_1) 97 122 false _ ?side1 A6.out).mono ?_); (case side1 => (repeat (first | exact HG.out | apply Glob.drewN | apply Glob.drew))); rintro e w' ⟨rfl, ⟨nd, rfl⟩⟩; refine ⟨_, rfl, ?_⟩; have p8 : 0 ≤ (x5_1 : Int) := of_decide_eq_true z70_; have q8 : x5_1 < (a0.size : Int) := of_decide_eq_true z70_; have hx8 := bt_at a0 x5_1; replace p8 := eq_true p8; replace q8 := eq_true q8) | (go_at_call 63; (with_reducible refine (cambistref02_within.calls (bt a0 x5_1) 65 90 false _ ?side1 A9.out).mono ?_); (case side1 => (repeat (first | exact HG.out | apply Glob.drewN | apply Glob.drew))); rintro e w' ⟨rfl, ⟨nd, rfl⟩⟩; have p11 : 0 ≤ (x5_1 : Int) := of_decide_eq_true z70_; have q11 : x5_1 < (a0.size : Int) := of_decide_eq_true z70_; have hx11 := bt_at a0 x5_1; replace p11 := eq_true p11; replace q11 := eq_true q11) | (go_at_call 63; (with_reducible refine (cambistref02_within.calls (bt a0 x5_1) 48 57 false _ ?side1 A12.out).mono ?_); (case side1 => (repeat (first | exact HG.out | apply Glob.drewN | apply Glob.drew))); rintro e w' ⟨rfl, ⟨nd, rfl⟩⟩; have p14 : 0 ≤ (x5_1 : Int) := of_decide_eq_true z70_; have q14 : x5_1 < (a0.size : Int) := of_decide_eq_true z70_; have hx14 := bt_at a0 x5_1; replace p14 := eq_true p14; replace q14 := eq_true q14))
         go_roundg k1
         case measure => have := HK1.out; omega
         case rel => exact ⟨(wrap64 (x5_1 + 1)), z71_, H', ⟨z73_⟩, z67_⟩
        ·rw [if_neg c15] at H
         have c15b0 : ((bt a0 x5_1) == 45) = false := beq_eq_false_iff_ne.mpr c15
         have c15b1 : ((bt a0 x5_1) != 45) = true := bne_iff_ne.mpr c15
         obtain rfl := Option.some.inj H
         have p5 : 0 ≤ (x5_1 : Int) := of_decide_eq_true z70_
         have q5 : x5_1 < (a0.size : Int) := of_decide_eq_true z70_
         have hx5 := bt_at a0 x5_1
         replace p5 := eq_true p5
         replace q5 := eq_true q5
         go_wp2_with (first | ((with_reducible refine gate_callee (f := 63) rfl ?_); refine goesL_ (some 16) rfl rfl Tryz.func63 z74_ rfl #[.int .u8 (bt a0 x5_1), .int .u8 97, .int .u8 122] rfl z19_ ?_; (with_reducible refine (cambistref02_within.calls (bt a0 x5_1) 97 122 false _ ?side1 A6.out).mono ?_); (case side1 => (repeat (first | exact HG.out | apply Glob.drewN | apply Glob.drew))); rintro e w' ⟨rfl, ⟨nd, rfl⟩⟩; refine ⟨_, rfl, ?_⟩; have p8 : 0 ≤ (x5_1 : Int) := of_decide_eq_true z70_; have q8 : x5_1 < (a0.size : Int) := of_decide_eq_true z70_; have hx8 := bt_at a0 x5_1; replace p8 := eq_true p8; replace q8 := eq_true q8) | (go_at_call 63; (with_reducible refine (cambistref02_within.calls (bt a0 x5_1) 65 90 false _ ?side1 A9.out).mono ?_); (case side1 => (repeat (first | exact HG.out | apply Glob.drewN | apply Glob.drew))); rintro e w' ⟨rfl, ⟨nd, rfl⟩⟩; have p11 : 0 ≤ (x5_1 : Int) := of_decide_eq_true z70_; have q11 : x5_1 < (a0.size : Int) := of_decide_eq_true z70_; have hx11 := bt_at a0 x5_1; replace p11 := eq_true p11; replace q11 := eq_true q11) | (go_at_call 63; (with_reducible refine (cambistref02_within.calls (bt a0 x5_1) 48 57 false _ ?side1 A12.out).mono ?_); (case side1 => (repeat (first | exact HG.out | apply Glob.drewN | apply Glob.drew))); rintro e w' ⟨rfl, ⟨nd, rfl⟩⟩; have p14 : 0 ≤ (x5_1 : Int) := of_decide_eq_true z70_; have q14 : x5_1 < (a0.size : Int) := of_decide_eq_true z70_; have hx14 := bt_at a0 x5_1; replace p14 := eq_true p14; replace q14 := eq_true q14))
         go_ret
         exact ⟨z71_, z67_⟩
    ·rw [if_neg c4] at H
     exact absurd H (by simp)
   ·rw [if_neg c3] at H
    have c3b0 : decide (x5_1 < (a0.size : Int)) = false := decide_eq_false c3
    clear c3
    by_cases c16 : (a0.size : Int) ≥ 1
    ·rw [if_pos c16] at H
     have c16b0 : decide (1 ≤ (a0.size : Int)) = true := decide_eq_true c16
     have c16b1 : decide (1 ≤ a0.size) = true := decide_eq_true (by omega)
     clear c16
     obtain rfl := Option.some.inj H
     go_wp2
     go_ret
     exact ⟨z71_, z67_⟩
    ·rw [if_neg c16] at H
     have c16b0 : decide (1 ≤ (a0.size : Int)) = false := decide_eq_false c16
     have c16b1 : decide (1 ≤ a0.size) = false := decide_eq_false (by omega)
     clear c16
     obtain rfl := Option.some.inj H
     go_wp2
     go_ret
     exact ⟨z71_, z67_⟩

/-! ### cambistref02_Word: function 46 -/
def cambistref02_Word.f (k : Nat) (a0 : ByteArray) : Option (Bool) := (cambistref02_part.f k a0 12).bind fun t264 => (some t264)
theorem cambistref02_Word.mono : ∀ a0 k, LeO (cambistref02_Word.f k a0) (cambistref02_Word.f (k + 1) a0) := by
 intro a0 k
 unfold cambistref02_Word.f
 repeat' first
   | (with_reducible exact cambistref02_part.mono _ _ _)
   | (with_reducible first | exact LeO.refl _ | exact LeO.none _ | refine LeO.ite ?_ ?_ | refine LeO.bind ?_ fun _ => ?_)
   | exact cambistref02_part.mono _ _ _
set_option maxHeartbeats 8000000 in
set_option maxRecDepth 100000 in
theorem cambistref02_Word.calls (k : Nat) (a0 : ByteArray) (r : Bool) (w : World) (hG : Glob w) (h : cambistref02_Word.f k a0 = some r) :
  Calls Tryz.prog 46 #[.string a0] w fun e w' => e = .returned (.bool r) ∧ Drawn0 w w' := by
 have HG := a_ hG
 clear hG
 have H : ((cambistref02_part.f k a0 12).bind fun t264 => (some t264)) = some r := h
 clear h
 replace H := Option.bind_eq_some_iff.mp H
 obtain ⟨t264, A20, H⟩ := H
 replace H : (some t264) = some r := H
 have A2 := a_ A20
 clear A20
 obtain rfl := Option.some.inj H
 go_enter Tryz.func46, Tryz.ntmps46
 go_wp2_with (first | ((with_reducible refine gate_callee (f := 50) rfl ?_); refine goesL_ (some 4) rfl rfl Tryz.func50 z74_ rfl #[.string a0, .int .i64 12] rfl z19_ ?_; (with_reducible refine (cambistref02_part.calls k a0 12 t264 _ ?side1 A2.out).mono ?_); (case side1 => (repeat (first | exact HG.out | apply Glob.drewN | apply Glob.drew))); rintro e w' ⟨rfl, ⟨nd, rfl⟩⟩; refine ⟨_, rfl, ?_⟩))
 go_ret
 exact ⟨z71_, z67_⟩

/-! ### cambistref02_Who: function 47 -/
mutual
def cambistref02_Who.j0 : Nat → ByteArray → Bool → Option (Bool)
 | 0, _, _ => none
 | k + 1, x0, x13 => if x13 = true then (some false) else (cambistref02_Who.l0 k x0 0)
def cambistref02_Who.l0 : Nat → ByteArray → Int → Option (Bool)
 | 0, _, _ => none
 | k + 1, x0, x3 => if x3 < (x0.size : Int) then (if 0 ≤ x3 then ((cambistref02_within.f (bt x0 x3) 97 122).bind fun t265 => ((cambistref02_within.f (bt x0 x3) 48 57).bind fun t266 => (if t265 = true then (cambistref02_Who.l0 k x0 (wrap64 (x3 + 1))) else (if x3 = 0 then (some false) else (if t266 = true then (cambistref02_Who.l0 k x0 (wrap64 (x3 + 1))) else (some false)))))) else (none)) else (some true)
end
def cambistref02_Who.f (k : Nat) (a0 : ByteArray) : Option (Bool) := if (a0.size : Int) < 1 then (cambistref02_Who.j0 k a0 true) else (cambistref02_Who.j0 k a0 (decide ((a0.size : Int) > 8)))
theorem cambistref02_Who.mono_l : ∀ k, (∀ y0 y1, LeO (cambistref02_Who.j0 k y0 y1) (cambistref02_Who.j0 (k + 1) y0 y1)) ∧ (∀ y0 y1, LeO (cambistref02_Who.l0 k y0 y1) (cambistref02_Who.l0 (k + 1) y0 y1))
 | 0 => ⟨fun _ _ r h => by simp [cambistref02_Who.j0] at h, fun _ _ r h => by simp [cambistref02_Who.l0] at h⟩
 | k + 1 => by
  obtain ⟨ih0, ih1⟩ := cambistref02_Who.mono_l k
  refine ⟨?_, ?_⟩
  ·intro y0 y1
   unfold cambistref02_Who.j0
   repeat' first
   | (with_reducible exact ih0 _ _)
   | (with_reducible exact ih1 _ _)
   | (with_reducible first | exact LeO.refl _ | exact LeO.none _ | refine LeO.ite ?_ ?_ | refine LeO.bind ?_ fun _ => ?_)
   | exact ih0 _ _
   | exact ih1 _ _
  ·intro y0 y1
   unfold cambistref02_Who.l0
   repeat' first
   | (with_reducible exact ih0 _ _)
   | (with_reducible exact ih1 _ _)
   | (with_reducible first | exact LeO.refl _ | exact LeO.none _ | refine LeO.ite ?_ ?_ | refine LeO.bind ?_ fun _ => ?_)
   | exact ih0 _ _
   | exact ih1 _ _
theorem cambistref02_Who.mono : ∀ a0 k, LeO (cambistref02_Who.f k a0) (cambistref02_Who.f (k + 1) a0) := by
 intro a0 k
 obtain ⟨ih0, ih1⟩ := cambistref02_Who.mono_l k
 unfold cambistref02_Who.f
 repeat' first
   | (with_reducible exact ih0 _ _)
   | (with_reducible exact ih1 _ _)
   | (with_reducible first | exact LeO.refl _ | exact LeO.none _ | refine LeO.ite ?_ ?_ | refine LeO.bind ?_ fun _ => ?_)
   | exact ih0 _ _
   | exact ih1 _ _
set_option maxHeartbeats 8000000 in
set_option maxRecDepth 100000 in
theorem cambistref02_Who.calls (k : Nat) (a0 : ByteArray) (r : Bool) (w : World) (hG : Glob w) (h : cambistref02_Who.f k a0 = some r) :
  Calls Tryz.prog 47 #[.string a0] w fun e w' => e = .returned (.bool r) ∧ Drawn0 w w' := by
 have HG := a_ hG
 clear hG
 have H : (if (a0.size : Int) < 1 then (cambistref02_Who.j0 k a0 true) else (cambistref02_Who.j0 k a0 (decide ((a0.size : Int) > 8)))) = some r := h
 clear h
 have HC2 := a_ H
 clear H
 go_enter Tryz.func47, Tryz.ntmps47
 go_upto_region 1 with (fail)
 go_cut [13] (fun v13 wc => ∃ (kq : Nat) (x13_1 : Bool), v13 = .bool x13_1 ∧ Aside0 (cambistref02_Who.j0 kq a0 x13_1 = some r) ∧ Aside0 (kq ≤ k) ∧ Drawn0 w wc)
 case first =>
  have H := HC2.out
  clear HC2
  by_cases c3 : (a0.size : Int) < 1
  ·rw [if_pos c3] at H
   have c3b0 : decide ((a0.size : Int) < 1) = true := decide_eq_true c3
   have c3b1 : decide (a0.size < 1) = true := decide_eq_true (by omega)
   clear c3
   (first | rw [c3b0] | (simp only [i64_w, i32_w]; rw [c3b0]) | skip)
   have H' := a_ H
   clear H
   go_wp2
   go_meet
   case rel => exact ⟨_, (true), z71_, H', ⟨z72_⟩, z67_⟩
  ·rw [if_neg c3] at H
   have c3b0 : decide ((a0.size : Int) < 1) = false := decide_eq_false c3
   have c3b1 : decide (a0.size < 1) = false := decide_eq_false (by omega)
   clear c3
   (first | rw [c3b0] | (simp only [i64_w, i32_w]; rw [c3b0]) | skip)
   have H' := a_ H
   clear H
   go_wp2
   go_meet
   case rel => exact ⟨_, (decide ((a0.size : Int) > 8)), z71_, H', ⟨z72_⟩, z67_⟩
 case rest =>
  clear HC2
  try clear p2
  try clear c3
  try clear c3b0
  try clear c3b1
  obtain ⟨kq, x13_1, rfl, HA, HJ1, ⟨mc1, rfl⟩⟩ := hcut
  cases kq with
  | zero => exact absurd HA.out (by simp [cambistref02_Who.j0])
  | succ kj1 =>
   have H := HA.out
   clear HA
   simp only [cambistref02_Who.j0] at H
   by_cases c4 : x13_1 = true
   ·subst c4
    have H1 : (some false) = some r := by rw [if_pos rfl] at H; exact H
    clear H
    have H := H1
    clear H1
    obtain rfl := Option.some.inj H
    go_wp2
    go_ret
    exact ⟨z71_, z67_⟩
   ·replace c4 := Bool.eq_false_iff.mpr c4
    subst c4
    have H1 : (cambistref02_Who.l0 kj1 a0 0) = some r := by rw [if_neg (show ¬ (false = true) by decide)] at H; exact H
    clear H
    have H := H1
    clear H1
    have H' := a_ H
    clear H
    go_wp2
    go_loopg [3] kj1 (fun kq v3 w' => ∃ (x3_2 : Int), v3 = .int .i64 x3_2 ∧ Aside0 (cambistref02_Who.l0 kq a0 x3_2 = some r) ∧ Aside0 (kq ≤ kj1) ∧ Drawn0 w w')
    case atStart => exact ⟨(0), z71_, H', ⟨Nat.le_refl _⟩, z67_⟩
    case round =>
     clear H'
     try clear c1
     try clear p2
     try clear c3
     try clear c3b0
     try clear c3b1
     try clear c4
     try clear p2
     obtain ⟨x3_2, rfl, HA, HK2, ⟨m2, rfl⟩⟩ := hrel
     cases gk with
     | zero => exact absurd HA.out (by simp [cambistref02_Who.l0])
     | succ k2 =>
      have H := HA.out
      clear HA
      simp only [cambistref02_Who.l0] at H
      by_cases c5 : x3_2 < (a0.size : Int)
      ·rw [if_pos c5] at H
       have c5b0 : decide (x3_2 < (a0.size : Int)) = true := decide_eq_true c5
       clear c5
       by_cases c6 : 0 ≤ x3_2
       ·rw [if_pos c6] at H
        have c6b0 : decide (0 ≤ x3_2) = true := decide_eq_true c6
        clear c6
        replace H := Option.bind_eq_some_iff.mp H
        obtain ⟨t265, A80, H⟩ := H
        replace H : ((cambistref02_within.f (bt a0 x3_2) 48 57).bind fun t266 => (if t265 = true then (cambistref02_Who.l0 k2 a0 (wrap64 (x3_2 + 1))) else (if x3_2 = 0 then (some false) else (if t266 = true then (cambistref02_Who.l0 k2 a0 (wrap64 (x3_2 + 1))) else (some false))))) = some r := H
        have A8 := a_ A80
        clear A80
        replace H := Option.bind_eq_some_iff.mp H
        obtain ⟨t266, A100, H⟩ := H
        replace H : (if t265 = true then (cambistref02_Who.l0 k2 a0 (wrap64 (x3_2 + 1))) else (if x3_2 = 0 then (some false) else (if t266 = true then (cambistref02_Who.l0 k2 a0 (wrap64 (x3_2 + 1))) else (some false)))) = some r := H
        have A10 := a_ A100
        clear A100
        by_cases c11 : t265 = true
        ·subst c11
         have H1 : (cambistref02_Who.l0 k2 a0 (wrap64 (x3_2 + 1))) = some r := by rw [if_pos rfl] at H; exact H
         clear H
         have H := H1
         clear H1
         have H' := a_ H
         clear H
         have p7 : 0 ≤ (x3_2 : Int) := of_decide_eq_true z70_
         have q7 : x3_2 < (a0.size : Int) := of_decide_eq_true z70_
         have hx7 := bt_at a0 x3_2
         replace p7 := eq_true p7
         replace q7 := eq_true q7
         go_wp2_with (first | ((with_reducible refine gate_callee (f := 63) rfl ?_); refine goesL_ (some 23) rfl rfl Tryz.func63 z74_ rfl #[.int .u8 (bt a0 x3_2), .int .u8 97, .int .u8 122] rfl z19_ ?_; (with_reducible refine (cambistref02_within.calls (bt a0 x3_2) 97 122 true _ ?side1 A8.out).mono ?_); (case side1 => (repeat (first | exact HG.out | apply Glob.drewN | apply Glob.drew))); rintro e w' ⟨rfl, ⟨nd, rfl⟩⟩; refine ⟨_, rfl, ?_⟩; have p9 : 0 ≤ (x3_2 : Int) := of_decide_eq_true z70_; have q9 : x3_2 < (a0.size : Int) := of_decide_eq_true z70_; have hx9 := bt_at a0 x3_2; replace p9 := eq_true p9; replace q9 := eq_true q9) | ((with_reducible refine gate_callee (f := 63) rfl ?_); refine goesL_ (some 27) rfl rfl Tryz.func63 z74_ rfl #[.int .u8 (bt a0 x3_2), .int .u8 48, .int .u8 57] rfl z19_ ?_; (with_reducible refine (cambistref02_within.calls (bt a0 x3_2) 48 57 t266 _ ?side1 A10.out).mono ?_); (case side1 => (repeat (first | exact HG.out | apply Glob.drewN | apply Glob.drew))); rintro e w' ⟨rfl, ⟨nd, rfl⟩⟩; refine ⟨_, rfl, ?_⟩))
         go_roundg k2
         case measure => have := HJ1.out; have := HK2.out; omega
         case rel => exact ⟨(wrap64 (x3_2 + 1)), z71_, H', ⟨by have := HJ1.out; have := HK2.out; omega⟩, z67_⟩
        ·replace c11 := Bool.eq_false_iff.mpr c11
         subst c11
         have H1 : (if x3_2 = 0 then (some false) else (if t266 = true then (cambistref02_Who.l0 k2 a0 (wrap64 (x3_2 + 1))) else (some false))) = some r := by rw [if_neg (show ¬ (false = true) by decide)] at H; exact H
         clear H
         have H := H1
         clear H1
         by_cases c12 : x3_2 = 0
         ·rw [if_pos c12] at H
          have c12b0 : (x3_2 == 0) = true := beq_iff_eq.mpr c12
          have c12b1 : (x3_2 != 0) = false := bne_eq_false_iff_eq.mpr c12
          clear c12
          obtain rfl := Option.some.inj H
          have p7 : 0 ≤ (x3_2 : Int) := of_decide_eq_true z70_
          have q7 : x3_2 < (a0.size : Int) := of_decide_eq_true z70_
          have hx7 := bt_at a0 x3_2
          replace p7 := eq_true p7
          replace q7 := eq_true q7
          go_wp2_with (first | ((with_reducible refine gate_callee (f := 63) rfl ?_); refine goesL_ (some 23) rfl rfl Tryz.func63 z74_ rfl #[.int .u8 (bt a0 x3_2), .int .u8 97, .int .u8 122] rfl z19_ ?_; (with_reducible refine (cambistref02_within.calls (bt a0 x3_2) 97 122 false _ ?side1 A8.out).mono ?_); (case side1 => (repeat (first | exact HG.out | apply Glob.drewN | apply Glob.drew))); rintro e w' ⟨rfl, ⟨nd, rfl⟩⟩; refine ⟨_, rfl, ?_⟩; have p9 : 0 ≤ (x3_2 : Int) := of_decide_eq_true z70_; have q9 : x3_2 < (a0.size : Int) := of_decide_eq_true z70_; have hx9 := bt_at a0 x3_2; replace p9 := eq_true p9; replace q9 := eq_true q9) | ((with_reducible refine gate_callee (f := 63) rfl ?_); refine goesL_ (some 27) rfl rfl Tryz.func63 z74_ rfl #[.int .u8 (bt a0 x3_2), .int .u8 48, .int .u8 57] rfl z19_ ?_; (with_reducible refine (cambistref02_within.calls (bt a0 x3_2) 48 57 t266 _ ?side1 A10.out).mono ?_); (case side1 => (repeat (first | exact HG.out | apply Glob.drewN | apply Glob.drew))); rintro e w' ⟨rfl, ⟨nd, rfl⟩⟩; refine ⟨_, rfl, ?_⟩))
          go_ret
          exact ⟨z71_, z67_⟩
         ·rw [if_neg c12] at H
          have c12b0 : (x3_2 == 0) = false := beq_eq_false_iff_ne.mpr c12
          have c12b1 : (x3_2 != 0) = true := bne_iff_ne.mpr c12
          by_cases c13 : t266 = true
          ·subst c13
           have H1 : (cambistref02_Who.l0 k2 a0 (wrap64 (x3_2 + 1))) = some r := by rw [if_pos rfl] at H; exact H
           clear H
           have H := H1
           clear H1
           have H' := a_ H
           clear H
           have p7 : 0 ≤ (x3_2 : Int) := of_decide_eq_true z70_
           have q7 : x3_2 < (a0.size : Int) := of_decide_eq_true z70_
           have hx7 := bt_at a0 x3_2
           replace p7 := eq_true p7
           replace q7 := eq_true q7
           go_wp2_with (first | ((with_reducible refine gate_callee (f := 63) rfl ?_); refine goesL_ (some 23) rfl rfl Tryz.func63 z74_ rfl #[.int .u8 (bt a0 x3_2), .int .u8 97, .int .u8 122] rfl z19_ ?_; (with_reducible refine (cambistref02_within.calls (bt a0 x3_2) 97 122 false _ ?side1 A8.out).mono ?_); (case side1 => (repeat (first | exact HG.out | apply Glob.drewN | apply Glob.drew))); rintro e w' ⟨rfl, ⟨nd, rfl⟩⟩; refine ⟨_, rfl, ?_⟩; have p9 : 0 ≤ (x3_2 : Int) := of_decide_eq_true z70_; have q9 : x3_2 < (a0.size : Int) := of_decide_eq_true z70_; have hx9 := bt_at a0 x3_2; replace p9 := eq_true p9; replace q9 := eq_true q9) | ((with_reducible refine gate_callee (f := 63) rfl ?_); refine goesL_ (some 27) rfl rfl Tryz.func63 z74_ rfl #[.int .u8 (bt a0 x3_2), .int .u8 48, .int .u8 57] rfl z19_ ?_; (with_reducible refine (cambistref02_within.calls (bt a0 x3_2) 48 57 true _ ?side1 A10.out).mono ?_); (case side1 => (repeat (first | exact HG.out | apply Glob.drewN | apply Glob.drew))); rintro e w' ⟨rfl, ⟨nd, rfl⟩⟩; refine ⟨_, rfl, ?_⟩))
           go_roundg k2
           case measure => have := HJ1.out; have := HK2.out; omega
           case rel => exact ⟨(wrap64 (x3_2 + 1)), z71_, H', ⟨by have := HJ1.out; have := HK2.out; omega⟩, z67_⟩
          ·replace c13 := Bool.eq_false_iff.mpr c13
           subst c13
           have H1 : (some false) = some r := by rw [if_neg (show ¬ (false = true) by decide)] at H; exact H
           clear H
           have H := H1
           clear H1
           obtain rfl := Option.some.inj H
           have p7 : 0 ≤ (x3_2 : Int) := of_decide_eq_true z70_
           have q7 : x3_2 < (a0.size : Int) := of_decide_eq_true z70_
           have hx7 := bt_at a0 x3_2
           replace p7 := eq_true p7
           replace q7 := eq_true q7
           go_wp2_with (first | ((with_reducible refine gate_callee (f := 63) rfl ?_); refine goesL_ (some 23) rfl rfl Tryz.func63 z74_ rfl #[.int .u8 (bt a0 x3_2), .int .u8 97, .int .u8 122] rfl z19_ ?_; (with_reducible refine (cambistref02_within.calls (bt a0 x3_2) 97 122 false _ ?side1 A8.out).mono ?_); (case side1 => (repeat (first | exact HG.out | apply Glob.drewN | apply Glob.drew))); rintro e w' ⟨rfl, ⟨nd, rfl⟩⟩; refine ⟨_, rfl, ?_⟩; have p9 : 0 ≤ (x3_2 : Int) := of_decide_eq_true z70_; have q9 : x3_2 < (a0.size : Int) := of_decide_eq_true z70_; have hx9 := bt_at a0 x3_2; replace p9 := eq_true p9; replace q9 := eq_true q9) | ((with_reducible refine gate_callee (f := 63) rfl ?_); refine goesL_ (some 27) rfl rfl Tryz.func63 z74_ rfl #[.int .u8 (bt a0 x3_2), .int .u8 48, .int .u8 57] rfl z19_ ?_; (with_reducible refine (cambistref02_within.calls (bt a0 x3_2) 48 57 false _ ?side1 A10.out).mono ?_); (case side1 => (repeat (first | exact HG.out | apply Glob.drewN | apply Glob.drew))); rintro e w' ⟨rfl, ⟨nd, rfl⟩⟩; refine ⟨_, rfl, ?_⟩))
           go_ret
           exact ⟨z71_, z67_⟩
       ·rw [if_neg c6] at H
        exact absurd H (by simp)
      ·rw [if_neg c5] at H
       have c5b0 : decide (x3_2 < (a0.size : Int)) = false := decide_eq_false c5
       clear c5
       obtain rfl := Option.some.inj H
       go_wp2
       go_ret
       exact ⟨z71_, z67_⟩

/-! ### cambistref02_Asset: function 48 -/
def cambistref02_Asset.l0 : Nat → ByteArray → Int → Option (Bool)
 | 0, _, _ => none
 | k + 1, x0, x3 => if x3 < (x0.size : Int) then (if 0 ≤ x3 then ((cambistref02_within.f (bt x0 x3) 65 90).bind fun t267 => (if t267 = true then (cambistref02_Asset.l0 k x0 (wrap64 (x3 + 1))) else (some false))) else (none)) else (if (x0.size : Int) ≥ 1 then (some (decide ((x0.size : Int) ≤ 6))) else (some false))
def cambistref02_Asset.f (k : Nat) (a0 : ByteArray) : Option (Bool) := cambistref02_Asset.l0 k a0 0
theorem cambistref02_Asset.mono_l : ∀ k, (∀ y0 y1, LeO (cambistref02_Asset.l0 k y0 y1) (cambistref02_Asset.l0 (k + 1) y0 y1))
 | 0 => fun _ _ r h => by simp [cambistref02_Asset.l0] at h
 | k + 1 => by
  have ih0 := cambistref02_Asset.mono_l k
  ·intro y0 y1
   unfold cambistref02_Asset.l0
   repeat' first
   | (with_reducible exact ih0 _ _)
   | (with_reducible first | exact LeO.refl _ | exact LeO.none _ | refine LeO.ite ?_ ?_ | refine LeO.bind ?_ fun _ => ?_)
   | exact ih0 _ _
theorem cambistref02_Asset.mono : ∀ a0 k, LeO (cambistref02_Asset.f k a0) (cambistref02_Asset.f (k + 1) a0) := by
 intro a0 k
 have ih0 := cambistref02_Asset.mono_l k
 unfold cambistref02_Asset.f
 repeat' first
   | (with_reducible exact ih0 _ _)
   | (with_reducible first | exact LeO.refl _ | exact LeO.none _ | refine LeO.ite ?_ ?_ | refine LeO.bind ?_ fun _ => ?_)
   | exact ih0 _ _
set_option maxHeartbeats 8000000 in
set_option maxRecDepth 100000 in
theorem cambistref02_Asset.calls (k : Nat) (a0 : ByteArray) (r : Bool) (w : World) (hG : Glob w) (h : cambistref02_Asset.f k a0 = some r) :
  Calls Tryz.prog 48 #[.string a0] w fun e w' => e = .returned (.bool r) ∧ Drawn0 w w' := by
 have HG := a_ hG
 clear hG
 have H : (cambistref02_Asset.l0 k a0 0) = some r := h
 clear h
 have H' := a_ H
 clear H
 go_enter Tryz.func48, Tryz.ntmps48
 go_wp2
 go_loopg [3] k (fun kq v3 w' => ∃ (x3_1 : Int), v3 = .int .i64 x3_1 ∧ Aside0 (cambistref02_Asset.l0 kq a0 x3_1 = some r) ∧ Aside0 (kq ≤ k) ∧ Drawn0 w w')
 case atStart => exact ⟨(0), z71_, H', ⟨Nat.le_refl _⟩, z67_⟩
 case round =>
  clear H'
  obtain ⟨x3_1, rfl, HA, HK1, ⟨m1, rfl⟩⟩ := hrel
  cases gk with
  | zero => exact absurd HA.out (by simp [cambistref02_Asset.l0])
  | succ k1 =>
   have H := HA.out
   clear HA
   simp only [cambistref02_Asset.l0] at H
   by_cases c2 : x3_1 < (a0.size : Int)
   ·rw [if_pos c2] at H
    have c2b0 : decide (x3_1 < (a0.size : Int)) = true := decide_eq_true c2
    clear c2
    by_cases c3 : 0 ≤ x3_1
    ·rw [if_pos c3] at H
     have c3b0 : decide (0 ≤ x3_1) = true := decide_eq_true c3
     clear c3
     replace H := Option.bind_eq_some_iff.mp H
     obtain ⟨t267, A50, H⟩ := H
     replace H : (if t267 = true then (cambistref02_Asset.l0 k1 a0 (wrap64 (x3_1 + 1))) else (some false)) = some r := H
     have A5 := a_ A50
     clear A50
     by_cases c6 : t267 = true
     ·subst c6
      have H1 : (cambistref02_Asset.l0 k1 a0 (wrap64 (x3_1 + 1))) = some r := by rw [if_pos rfl] at H; exact H
      clear H
      have H := H1
      clear H1
      have H' := a_ H
      clear H
      have p4 : 0 ≤ (x3_1 : Int) := of_decide_eq_true z70_
      have q4 : x3_1 < (a0.size : Int) := of_decide_eq_true z70_
      have hx4 := bt_at a0 x3_1
      replace p4 := eq_true p4
      replace q4 := eq_true q4
      go_wp2_with (first | ((with_reducible refine gate_callee (f := 63) rfl ?_); refine goesL_ (some 14) rfl rfl Tryz.func63 z74_ rfl #[.int .u8 (bt a0 x3_1), .int .u8 65, .int .u8 90] rfl z19_ ?_; (with_reducible refine (cambistref02_within.calls (bt a0 x3_1) 65 90 true _ ?side1 A5.out).mono ?_); (case side1 => (repeat (first | exact HG.out | apply Glob.drewN | apply Glob.drew))); rintro e w' ⟨rfl, ⟨nd, rfl⟩⟩; refine ⟨_, rfl, ?_⟩))
      go_roundg k1
      case measure => have := HK1.out; omega
      case rel => exact ⟨(wrap64 (x3_1 + 1)), z71_, H', ⟨z73_⟩, z67_⟩
     ·replace c6 := Bool.eq_false_iff.mpr c6
      subst c6
      have H1 : (some false) = some r := by rw [if_neg (show ¬ (false = true) by decide)] at H; exact H
      clear H
      have H := H1
      clear H1
      obtain rfl := Option.some.inj H
      have p4 : 0 ≤ (x3_1 : Int) := of_decide_eq_true z70_
      have q4 : x3_1 < (a0.size : Int) := of_decide_eq_true z70_
      have hx4 := bt_at a0 x3_1
      replace p4 := eq_true p4
      replace q4 := eq_true q4
      go_wp2_with (first | ((with_reducible refine gate_callee (f := 63) rfl ?_); refine goesL_ (some 14) rfl rfl Tryz.func63 z74_ rfl #[.int .u8 (bt a0 x3_1), .int .u8 65, .int .u8 90] rfl z19_ ?_; (with_reducible refine (cambistref02_within.calls (bt a0 x3_1) 65 90 false _ ?side1 A5.out).mono ?_); (case side1 => (repeat (first | exact HG.out | apply Glob.drewN | apply Glob.drew))); rintro e w' ⟨rfl, ⟨nd, rfl⟩⟩; refine ⟨_, rfl, ?_⟩))
      go_ret
      exact ⟨z71_, z67_⟩
    ·rw [if_neg c3] at H
     exact absurd H (by simp)
   ·rw [if_neg c2] at H
    have c2b0 : decide (x3_1 < (a0.size : Int)) = false := decide_eq_false c2
    clear c2
    by_cases c7 : (a0.size : Int) ≥ 1
    ·rw [if_pos c7] at H
     have c7b0 : decide (1 ≤ (a0.size : Int)) = true := decide_eq_true c7
     have c7b1 : decide (1 ≤ a0.size) = true := decide_eq_true (by omega)
     clear c7
     obtain rfl := Option.some.inj H
     go_wp2
     go_ret
     exact ⟨z71_, z67_⟩
    ·rw [if_neg c7] at H
     have c7b0 : decide (1 ≤ (a0.size : Int)) = false := decide_eq_false c7
     have c7b1 : decide (1 ≤ a0.size) = false := decide_eq_false (by omega)
     clear c7
     obtain rfl := Option.some.inj H
     go_wp2
     go_ret
     exact ⟨z71_, z67_⟩

/-! ### cambistref01_Add: function 38 -/
def cambistref01_Add.f (a0 : Int) (a1 : Int) : Option (Int × Int) := if a1 > 0 then (if a0 > (wrap64 (9223372036854775807 - a1)) then (some (0, 10)) else (if a1 < 0 then (if a0 < (wrap64 ((-9223372036854775808) - a1)) then (some (0, 10)) else (some (wrap64 (a0 + a1), 0))) else (some (wrap64 (a0 + a1), 0)))) else (if a1 < 0 then (if a0 < (wrap64 ((-9223372036854775808) - a1)) then (some (0, 10)) else (some (wrap64 (a0 + a1), 0))) else (some (wrap64 (a0 + a1), 0)))
set_option maxHeartbeats 8000000 in
set_option maxRecDepth 100000 in
theorem cambistref01_Add.calls (a0 : Int) (a1 : Int) (r1 : Int) (r2 : Int) (w : World) (hG : Glob w) (h : cambistref01_Add.f a0 a1 = some (r1, r2)) :
  Calls Tryz.prog 38 #[.int .i64 a0, .int .i64 a1] w fun e w' => e = .returned (.tuple #[.int .i64 r1, .int .i64 r2]) ∧ Drawn0 w w' := by
 have HG := a_ hG
 clear hG
 have H : (if a1 > 0 then (if a0 > (wrap64 (9223372036854775807 - a1)) then (some (0, 10)) else (if a1 < 0 then (if a0 < (wrap64 ((-9223372036854775808) - a1)) then (some (0, 10)) else (some (wrap64 (a0 + a1), 0))) else (some (wrap64 (a0 + a1), 0)))) else (if a1 < 0 then (if a0 < (wrap64 ((-9223372036854775808) - a1)) then (some (0, 10)) else (some (wrap64 (a0 + a1), 0))) else (some (wrap64 (a0 + a1), 0)))) = some (r1, r2) := h
 clear h
 by_cases c3 : a1 > 0
 ·rw [if_pos c3] at H
  have c3b0 : decide (0 < a1) = true := decide_eq_true c3
  clear c3
  by_cases c4 : a0 > (wrap64 (9223372036854775807 - a1))
  ·rw [if_pos c4] at H
   have c4b0 : decide ((wrap64 (9223372036854775807 - a1)) < a0) = true := decide_eq_true c4
   clear c4
   simp only [Option.some.injEq, Prod.mk.injEq] at H
   obtain ⟨rfl, rfl⟩ := H
   go_enter Tryz.func38, Tryz.ntmps38
   go_wp2
   go_ret2
   exact ⟨z71_, z67_⟩
  ·rw [if_neg c4] at H
   have c4b0 : decide ((wrap64 (9223372036854775807 - a1)) < a0) = false := decide_eq_false c4
   clear c4
   by_cases c5 : a1 < 0
   ·rw [if_pos c5] at H
    have c5b0 : decide (a1 < 0) = true := decide_eq_true c5
    clear c5
    by_cases c6 : a0 < (wrap64 ((-9223372036854775808) - a1))
    ·rw [if_pos c6] at H
     have c6b0 : decide (a0 < (wrap64 ((-9223372036854775808) - a1))) = true := decide_eq_true c6
     clear c6
     simp only [Option.some.injEq, Prod.mk.injEq] at H
     obtain ⟨rfl, rfl⟩ := H
     go_enter Tryz.func38, Tryz.ntmps38
     go_wp2
     go_ret2
     exact ⟨z71_, z67_⟩
    ·rw [if_neg c6] at H
     have c6b0 : decide (a0 < (wrap64 ((-9223372036854775808) - a1))) = false := decide_eq_false c6
     clear c6
     simp only [Option.some.injEq, Prod.mk.injEq] at H
     obtain ⟨rfl, rfl⟩ := H
     go_enter Tryz.func38, Tryz.ntmps38
     go_wp2
     go_ret2
     exact ⟨z71_, z67_⟩
   ·rw [if_neg c5] at H
    have c5b0 : decide (a1 < 0) = false := decide_eq_false c5
    clear c5
    simp only [Option.some.injEq, Prod.mk.injEq] at H
    obtain ⟨rfl, rfl⟩ := H
    go_enter Tryz.func38, Tryz.ntmps38
    go_wp2
    go_ret2
    exact ⟨z71_, z67_⟩
 ·rw [if_neg c3] at H
  have c3b0 : decide (0 < a1) = false := decide_eq_false c3
  clear c3
  by_cases c7 : a1 < 0
  ·rw [if_pos c7] at H
   have c7b0 : decide (a1 < 0) = true := decide_eq_true c7
   clear c7
   by_cases c8 : a0 < (wrap64 ((-9223372036854775808) - a1))
   ·rw [if_pos c8] at H
    have c8b0 : decide (a0 < (wrap64 ((-9223372036854775808) - a1))) = true := decide_eq_true c8
    clear c8
    simp only [Option.some.injEq, Prod.mk.injEq] at H
    obtain ⟨rfl, rfl⟩ := H
    go_enter Tryz.func38, Tryz.ntmps38
    go_wp2
    go_ret2
    exact ⟨z71_, z67_⟩
   ·rw [if_neg c8] at H
    have c8b0 : decide (a0 < (wrap64 ((-9223372036854775808) - a1))) = false := decide_eq_false c8
    clear c8
    simp only [Option.some.injEq, Prod.mk.injEq] at H
    obtain ⟨rfl, rfl⟩ := H
    go_enter Tryz.func38, Tryz.ntmps38
    go_wp2
    go_ret2
    exact ⟨z71_, z67_⟩
  ·rw [if_neg c7] at H
   have c7b0 : decide (a1 < 0) = false := decide_eq_false c7
   clear c7
   simp only [Option.some.injEq, Prod.mk.injEq] at H
   obtain ⟨rfl, rfl⟩ := H
   go_enter Tryz.func38, Tryz.ntmps38
   go_wp2
   go_ret2
   exact ⟨z71_, z67_⟩

end Go.Proofs.YtjlifcbddednaaaGreatDoor.P
