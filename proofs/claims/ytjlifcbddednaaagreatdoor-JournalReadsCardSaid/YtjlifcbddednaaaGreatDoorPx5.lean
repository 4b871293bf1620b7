-- Laid by wip/tools/cprint.py of this claim's own repo (over the kit's print).
import Derived.Test.YtjlifcbddednaaaGreatDoorSq
import Derived.Test.YtjlifcbddednaaaGreatDoorPx0
import Derived.Test.YtjlifcbddednaaaGreatDoorPx1
import Derived.Test.YtjlifcbddednaaaGreatDoorDigits
import Derived.Test.YtjlifcbddednaaaGreatDoorLib
import Derived.Test.YtjlifcbddednaaaGreatDoorOf
namespace Go.Proofs.YtjlifcbddednaaaGreatDoor.P
open Go.RowKit Go.Proofs.YtjlifcbddednaaaGreatDoor.E Go.Proofs.YtjlifcbddednaaaGreatDoorW.PrintWords Go.Proofs.YtjlifcbddednaaaGreatDoorW.PrintLast
set_option linter.unusedVariables false
set_option linter.unusedSimpArgs false

attribute [local go_sem high] eqA26
/-! ### api_Pair: function 13 -/
def api_Pair.l0 : Nat → List (S26) → List (S26) → Int → Int → Option (Bool)
 | 0, _, _, _, _ => none
 | k + 1, x0, x1, x12, x13 => if x13 < x12 then (if 0 ≤ x13 then (if x13 < (x0.length : Int) then (if x13 < (x1.length : Int) then (if (!((((rd_T26 x0 x13).f0).toList) == (((rd_T26 x1 x13).f0).toList)) || (!((((rd_T26 x0 x13).f1).toList) == (((rd_T26 x1 x13).f1).toList)))) = true then (some false) else (api_Pair.l0 k x0 x1 x12 (wrap64 (x13 + 1)))) else (none)) else (none)) else (none)) else (some true)
def api_Pair.f (k : Nat) (l0 : List (S26)) (l1 : List (S26)) : Option (Bool) := if (l0.length : Int) = (l1.length : Int) then (api_Pair.l0 k l0 l1 (l0.length : Int) 0) else (some false)
theorem api_Pair.mono_l : ∀ k, (∀ y0 y1 y2 y3, LeO (api_Pair.l0 k y0 y1 y2 y3) (api_Pair.l0 (k + 1) y0 y1 y2 y3))
 | 0 => fun _ _ _ _ r h => by simp [api_Pair.l0] at h
 | k + 1 => by
  have ih0 := api_Pair.mono_l k
  ·intro y0 y1 y2 y3
   unfold api_Pair.l0
   repeat' first
   | (with_reducible exact ih0 _ _ _ _)
   | (with_reducible first | exact LeO.refl _ | exact LeO.none _ | refine LeO.ite ?_ ?_ | refine LeO.bind ?_ fun _ => ?_)
   | exact ih0 _ _ _ _
theorem api_Pair.mono : ∀ a0 a1 k, LeO (api_Pair.f k a0 a1) (api_Pair.f (k + 1) a0 a1) := by
 intro a0 a1 k
 have ih0 := api_Pair.mono_l k
 unfold api_Pair.f
 repeat' first
   | (with_reducible exact ih0 _ _ _ _)
   | (with_reducible first | exact LeO.refl _ | exact LeO.none _ | refine LeO.ite ?_ ?_ | refine LeO.bind ?_ fun _ => ?_)
   | exact ih0 _ _ _ _
set_option maxHeartbeats 8000000 in
set_option maxRecDepth 100000 in
theorem api_Pair.calls (k : Nat) (A0 : Option Addr) (c0 : Nat) (l0 : List (S26)) (A1 : Option Addr) (c1 : Nat) (l1 : List (S26)) (r : Bool) (w : World) (hG : Glob w) (hr0 : Kd.C k26 w A0 l0.length l0) (hc0 : l0.length ≤ c0) (hr1 : Kd.C k26 w A1 l1.length l1) (hc1 : l1.length ≤ c1) (h : api_Pair.f k l0 l1 = some r) :
  Calls Tryz.prog 13 #[.slice A0 l0.length c0, .slice A1 l1.length c1] w fun e w' => e = .returned (.bool r) ∧ Drawn0 w w' := by
 have hu26 := Tryz.underlying26
 have HG := a_ hG
 clear hG
 have HR0 := a_ hr0
 have HC0 := a_ hc0
 clear hr0 hc0
 have HR1 := a_ hr1
 have HC1 := a_ hc1
 clear hr1 hc1
 have H : (if (l0.length : Int) = (l1.length : Int) then (api_Pair.l0 k l0 l1 (l0.length : Int) 0) else (some false)) = some r := h
 clear h
 by_cases c3 : (l0.length : Int) = (l1.length : Int)
 ·rw [if_pos c3] at H
  have c3b0 : ((l0.length : Int) == (l1.length : Int)) = true := beq_iff_eq.mpr c3
  have c3b1 : ((l0.length : Int) != (l1.length : Int)) = false := bne_eq_false_iff_eq.mpr c3
  have c3b2 : (l0.length == l1.length) = true := by first | simpa using c3 | (simp at c3 ⊢; omega)
  clear c3
  have H' := a_ H
  clear H
  go_enter Tryz.func13, Tryz.ntmps13
  go_wp2
  repeat (go_quiet (fail); try go_wp2)
  go_loopg [13] k (fun kq v13 w' => ∃ (x13_1 : Int), v13 = .int .i64 x13_1 ∧ Aside0 (api_Pair.l0 kq l0 l1 (l0.length : Int) x13_1 = some r) ∧ Aside0 (kq ≤ k) ∧ Drawn0 w w')
  case atStart => exact ⟨(0), z71_, H', ⟨Nat.le_refl _⟩, z67_⟩
  case round =>
   clear H'
   try clear c1
   try clear p2
   try clear c3
   try clear c3b0
   try clear c3b1
   try clear c3b2
   obtain ⟨x13_1, rfl, HA, HK1, ⟨m1, rfl⟩⟩ := hrel
   cases gk with
   | zero => exact absurd HA.out (by simp [api_Pair.l0])
   | succ k1 =>
    have H := HA.out
    clear HA
    simp only [api_Pair.l0] at H
    by_cases c4 : x13_1 < (l0.length : Int)
    ·rw [if_pos c4] at H
     have c4b0 : decide (x13_1 < (l0.length : Int)) = true := decide_eq_true c4
     clear c4
     by_cases c5 : 0 ≤ x13_1
     ·rw [if_pos c5] at H
      have c5b0 : decide (0 ≤ x13_1) = true := decide_eq_true c5
      clear c5
      by_cases c6 : x13_1 < (l0.length : Int)
      ·rw [if_pos c6] at H
       have c6b0 : decide (x13_1 < (l0.length : Int)) = true := decide_eq_true c6
       clear c6
       by_cases c7 : x13_1 < (l1.length : Int)
       ·rw [if_pos c7] at H
        have c7b0 : decide (x13_1 < (l1.length : Int)) = true := decide_eq_true c7
        clear c7
        by_cases c8 : (!((((rd_T26 l0 x13_1).f0).toList) == (((rd_T26 l1 x13_1).f0).toList)) || (!((((rd_T26 l0 x13_1).f1).toList) == (((rd_T26 l1 x13_1).f1).toList)))) = true
        ·rw [if_pos c8] at H
         have c8b0 : (!((((rd_T26 l0 x13_1).f0).toList) == (((rd_T26 l1 x13_1).f0).toList)) || (!((((rd_T26 l0 x13_1).f1).toList) == (((rd_T26 l1 x13_1).f1).toList)))) = true := c8
         clear c8
         obtain rfl := Option.some.inj H
         have p160 : 0 ≤ (x13_1 : Int) := of_decide_eq_true z70_
         have q160 : x13_1 < (l0.length : Int) := of_decide_eq_true z70_
         obtain ⟨ad160, e160, hx160_0, hx160_1⟩ := at_T26 HR0.out x13_1 p160 q160
         cases e160
         replace p160 := eq_true p160
         replace q160 := eq_true q160
         have p161 : 0 ≤ (x13_1 : Int) := of_decide_eq_true z70_
         have q161 : x13_1 < (l1.length : Int) := of_decide_eq_true z70_
         obtain ⟨ad161, e161, hx161_0, hx161_1⟩ := at_T26 HR1.out x13_1 p161 q161
         cases e161
         replace p161 := eq_true p161
         replace q161 := eq_true q161
         go_wp2
         repeat (go_quiet (fail); try go_wp2)
         go_ret
         exact ⟨z71_, z67_⟩
        ·rw [if_neg c8] at H
         have c8b0 : (!((((rd_T26 l0 x13_1).f0).toList) == (((rd_T26 l1 x13_1).f0).toList)) || (!((((rd_T26 l0 x13_1).f1).toList) == (((rd_T26 l1 x13_1).f1).toList)))) = false := by simpa using c8
         clear c8
         have H' := a_ H
         clear H
         have p160 : 0 ≤ (x13_1 : Int) := of_decide_eq_true z70_
         have q160 : x13_1 < (l0.length : Int) := of_decide_eq_true z70_
         obtain ⟨ad160, e160, hx160_0, hx160_1⟩ := at_T26 HR0.out x13_1 p160 q160
         cases e160
         replace p160 := eq_true p160
         replace q160 := eq_true q160
         have p161 : 0 ≤ (x13_1 : Int) := of_decide_eq_true z70_
         have q161 : x13_1 < (l1.length : Int) := of_decide_eq_true z70_
         obtain ⟨ad161, e161, hx161_0, hx161_1⟩ := at_T26 HR1.out x13_1 p161 q161
         cases e161
         replace p161 := eq_true p161
         replace q161 := eq_true q161
         go_wp2
         repeat (go_quiet (fail); try go_wp2)
         go_roundg k1
         case measure => have := HK1.out; omega
         case rel => exact ⟨(wrap64 (x13_1 + 1)), z71_, H', ⟨z73_⟩, z67_⟩
       ·rw [if_neg c7] at H
        exact absurd H (by simp)
      ·rw [if_neg c6] at H
       exact absurd H (by simp)
     ·rw [if_neg c5] at H
      exact absurd H (by simp)
    ·rw [if_neg c4] at H
     have c4b0 : decide (x13_1 < (l0.length : Int)) = false := decide_eq_false c4
     clear c4
     obtain rfl := Option.some.inj H
     go_wp2
     repeat (go_quiet (fail); try go_wp2)
     go_ret
     exact ⟨z71_, z67_⟩
 ·rw [if_neg c3] at H
  have c3b0 : ((l0.length : Int) == (l1.length : Int)) = false := beq_eq_false_iff_ne.mpr c3
  have c3b1 : ((l0.length : Int) != (l1.length : Int)) = true := bne_iff_ne.mpr c3
  have c3b2 : (l0.length == l1.length) = false := by first | simpa using c3 | (simp at c3 ⊢; omega)
  obtain rfl := Option.some.inj H
  go_enter Tryz.func13, Tryz.ntmps13
  go_wp2
  repeat (go_quiet (fail); try go_wp2)
  go_ret
  exact ⟨z71_, z67_⟩

/-! ### label_Key: function 39 -/
mutual
def label_Key.j0 : Nat → Int → List ByteArray → Bool → Option (ByteArray × Int)
 | 0, _, _, _ => none
 | k + 1, x0, x1, x23 => if x23 = true then (some ((⟨#[]⟩ : ByteArray), 20)) else (label_Key.l0 k x0 x1 x1 (x1.length : Int) 0)
def label_Key.l0 : Nat → Int → List ByteArray → List ByteArray → Int → Int → Option (ByteArray × Int)
 | 0, _, _, _, _, _ => none
 | k + 1, x0, x1, x24, x25, x26 => if x26 < x25 then (if 0 ≤ x26 then (if x26 < (x24.length : Int) then ((label_of.f (rdOf ByteArray.empty x24 x26) 16 (([(⟨#[97, 98, 99, 100, 101, 102, 103, 104, 105, 106, 107, 108, 109, 110, 111, 112, 113, 114, 115, 116, 117, 118, 119, 120, 121, 122]⟩ : ByteArray), (⟨#[65, 66, 67, 68, 69, 70, 71, 72, 73, 74, 75, 76, 77, 78, 79, 80, 81, 82, 83, 84, 85, 86, 87, 88, 89, 90]⟩ : ByteArray), (⟨#[48, 49, 50, 51, 52, 53, 54, 55, 56, 57]⟩ : ByteArray), (⟨#[45]⟩ : ByteArray)] : List ByteArray))).bind fun t166 => (if t166 = true then (label_Key.l0 k x0 x1 x24 x25 (wrap64 (x26 + 1))) else (some ((⟨#[]⟩ : ByteArray), 20)))) else (none)) else (none)) else ((some (([x0] : List Int) : List Int)).bind fun y167 => (if (strOfNums y167).size + 1 ≤ 9223372036854775807 then ((strings_Join.f x1 (⟨#[124]⟩ : ByteArray)).bind fun t170 => (if ((strOfNums y167) ++ (⟨#[124]⟩ : ByteArray)).size + t170.size ≤ 9223372036854775807 then (some (((strOfNums y167) ++ (⟨#[124]⟩ : ByteArray)) ++ t170, 0)) else (none))) else (none)))
end
def label_Key.f (k : Nat) (a0 : Int) (l1 : List ByteArray) : Option (ByteArray × Int) := if a0 < 97 then (label_Key.j0 k a0 l1 true) else (if a0 > 122 then (label_Key.j0 k a0 l1 true) else (if (l1.length : Int) < 1 then (label_Key.j0 k a0 l1 true) else (label_Key.j0 k a0 l1 (decide ((l1.length : Int) > 4)))))
theorem label_Key.mono_l : ∀ k, (∀ y0 y1 y2, LeO (label_Key.j0 k y0 y1 y2) (label_Key.j0 (k + 1) y0 y1 y2)) ∧ (∀ y0 y1 y2 y3 y4, LeO (label_Key.l0 k y0 y1 y2 y3 y4) (label_Key.l0 (k + 1) y0 y1 y2 y3 y4))
 | 0 => ⟨fun _ _ _ r h => by simp [label_Key.j0] at h, fun _ _ _ _ _ r h => by simp [label_Key.l0] at h⟩
 | k + 1 => by
  obtain ⟨ih0, ih1⟩ := label_Key.mono_l k
  refine ⟨?_, ?_⟩
  ·intro y0 y1 y2
   unfold label_Key.j0
   repeat' first
   | (with_reducible exact ih0 _ _ _)
   | (with_reducible exact ih1 _ _ _ _ _)
   | (with_reducible first | exact LeO.refl _ | exact LeO.none _ | refine LeO.ite ?_ ?_ | refine LeO.bind ?_ fun _ => ?_)
   | exact ih0 _ _ _
   | exact ih1 _ _ _ _ _
  ·intro y0 y1 y2 y3 y4
   unfold label_Key.l0
   repeat' first
   | (with_reducible exact ih0 _ _ _)
   | (with_reducible exact ih1 _ _ _ _ _)
   | (with_reducible first | exact LeO.refl _ | exact LeO.none _ | refine LeO.ite ?_ ?_ | refine LeO.bind ?_ fun _ => ?_)
   | exact ih0 _ _ _
   | exact ih1 _ _ _ _ _
theorem label_Key.mono : ∀ a0 a1 k, LeO (label_Key.f k a0 a1) (label_Key.f (k + 1) a0 a1) := by
 intro a0 a1 k
 obtain ⟨ih0, ih1⟩ := label_Key.mono_l k
 unfold label_Key.f
 repeat' first
   | (with_reducible exact ih0 _ _ _)
   | (with_reducible exact ih1 _ _ _ _ _)
   | (with_reducible first | exact LeO.refl _ | exact LeO.none _ | refine LeO.ite ?_ ?_ | refine LeO.bind ?_ fun _ => ?_)
   | exact ih0 _ _ _
   | exact ih1 _ _ _ _ _
def label_Key.T9 : Bool × List (List Nat × List Nat) := (true, [([], []), ([0], [0]), ([1], [1]), ([2], [2]), ([], []), ([4], [4]), ([3, 5], [3, 5]), ([6, 5, 0, 1, 2, 3, 4, 5, 6], [6]), ([7, 0, 1, 2, 3, 4, 5, 6, 7], [])])
def label_Key.B9 : List Nat := [0, 1, 3, 7, 0, 16, 63, 127, 255]
theorem label_Key.tab9 : rtab .any (opsOf Tryz.f39 9) = label_Key.T9 := by kernel_rfl
theorem label_Key.bits9 : waitsOk label_Key.T9.2 label_Key.B9 = true := by kernel_rfl
set_option maxHeartbeats 8000000 in
set_option maxRecDepth 100000 in
theorem label_Key.calls (k : Nat) (a0 : Int) (A1 : Option Addr) (c1 : Nat) (l1 : List ByteArray) (r1 : ByteArray) (r2 : Int) (w : World) (hG : Glob w) (hr1 : Kd.C Kd.string w A1 l1.length l1) (hc1 : l1.length ≤ c1) (h : label_Key.f k a0 l1 = some (r1, r2)) :
  Calls Tryz.prog 39 #[.int .u8 a0, .slice A1 l1.length c1] w fun e w' => e = .returned (.tuple #[.string r1, .int .i64 r2]) ∧ Below w.heap.size w w' := by
 have HG := a_ hG
 clear hG
 have HR1 := a_ hr1
 have HC1 := a_ hc1
 clear hr1 hc1
 have HB := a_ (Below.refl w.heap.size w)
 have H : (if a0 < 97 then (label_Key.j0 k a0 l1 true) else (if a0 > 122 then (label_Key.j0 k a0 l1 true) else (if (l1.length : Int) < 1 then (label_Key.j0 k a0 l1 true) else (label_Key.j0 k a0 l1 (decide ((l1.length : Int) > 4)))))) = some (r1, r2) := h
 clear h
 have HC3 := a_ H
 clear H
 go_enter Tryz.func39, Tryz.ntmps39
 go_upto_region 1 with (fail)
 go_cut [23] (fun v23 wc => ∃ (kq : Nat) (x23_2 : Bool), v23 = .bool x23_2 ∧ Aside0 (label_Key.j0 kq a0 l1 x23_2 = some (r1, r2)) ∧ Aside0 (kq ≤ k) ∧ Aside0 (Below w.heap.size w wc))
 case first =>
  have H := HC3.out
  clear HC3
  by_cases c4 : a0 < 97
  ·rw [if_pos c4] at H
   have c4b0 : decide (a0 < 97) = true := decide_eq_true c4
   clear c4
   (first | rw [c4b0] | (simp only [i64_w, i32_w]; rw [c4b0]) | skip)
   have H' := a_ H
   clear H
   go_wp2
   go_meet
   case rel => exact ⟨_, (true), z71_, H', ⟨z72_⟩, ⟨z33_⟩⟩
  ·rw [if_neg c4] at H
   have c4b0 : decide (a0 < 97) = false := decide_eq_false c4
   clear c4
   (first | rw [c4b0] | (simp only [i64_w, i32_w]; rw [c4b0]) | skip)
   by_cases c5 : a0 > 122
   ·rw [if_pos c5] at H
    have c5b0 : decide (122 < a0) = true := decide_eq_true c5
    clear c5
    have H' := a_ H
    clear H
    go_wp2
    go_meet
    case rel => exact ⟨_, (true), z71_, H', ⟨z72_⟩, ⟨z33_⟩⟩
   ·rw [if_neg c5] at H
    have c5b0 : decide (122 < a0) = false := decide_eq_false c5
    clear c5
    by_cases c6 : (l1.length : Int) < 1
    ·rw [if_pos c6] at H
     have c6b0 : decide ((l1.length : Int) < 1) = true := decide_eq_true c6
     have c6b1 : decide (l1.length < 1) = true := decide_eq_true (by omega)
     clear c6
     have H' := a_ H
     clear H
     go_wp2
     go_meet
     case rel => exact ⟨_, (true), z71_, H', ⟨z72_⟩, ⟨z33_⟩⟩
    ·rw [if_neg c6] at H
     have c6b0 : decide ((l1.length : Int) < 1) = false := decide_eq_false c6
     have c6b1 : decide (l1.length < 1) = false := decide_eq_false (by omega)
     clear c6
     have H' := a_ H
     clear H
     go_wp2
     go_meet
     case rel => exact ⟨_, (decide ((l1.length : Int) > 4)), z71_, H', ⟨z72_⟩, ⟨z33_⟩⟩
 case rest =>
  clear HC3
  try clear c1
  try clear p2
  try clear c3
  try clear c4
  try clear c4b0
  try clear c5
  try clear c5b0
  try clear c6
  try clear c6b0
  try clear c6b1
  obtain ⟨kq, x23_2, rfl, HA, HJ2, HB⟩ := hcut
  cases kq with
  | zero => exact absurd HA.out (by simp [label_Key.j0])
  | succ kj2 =>
   have H := HA.out
   clear HA
   simp only [label_Key.j0] at H
   by_cases c7 : x23_2 = true
   ·subst c7
    have H1 : (some ((⟨#[]⟩ : ByteArray), 20)) = some (r1, r2) := by rw [if_pos rfl] at H; exact H
    clear H
    have H := H1
    clear H1
    simp only [Option.some.injEq, Prod.mk.injEq] at H
    obtain ⟨rfl, rfl⟩ := H
    go_wp2
    go_ret2
    exact ⟨z64_, z33_⟩
   ·replace c7 := Bool.eq_false_iff.mpr c7
    subst c7
    have H1 : (label_Key.l0 kj2 a0 l1 l1 (l1.length : Int) 0) = some (r1, r2) := by rw [if_neg (show ¬ (false = true) by decide)] at H; exact H
    clear H
    have H := H1
    clear H1
    have H' := a_ H
    clear H
    go_wp2
    go_loopg [26] kj2 (fun kq v26 w' => ∃ (x26_2 : Int), v26 = .int .i64 x26_2 ∧ Aside0 (label_Key.l0 kq a0 l1 l1 (l1.length : Int) x26_2 = some (r1, r2)) ∧ Aside0 (kq ≤ kj2) ∧ Aside0 (Below w.heap.size w w'))
    case atStart => exact ⟨(0), z71_, H', ⟨Nat.le_refl _⟩, ⟨z33_⟩⟩
    case round =>
     clear H'
     try clear c1
     try clear p2
     try clear c3
     try clear c4
     try clear c4b0
     try clear c5
     try clear c5b0
     try clear c6
     try clear c6b0
     try clear c6b1
     try clear c7
     try clear p2
     obtain ⟨x26_2, rfl, HA, HK2, HB⟩ := hrel
     cases gk with
     | zero => exact absurd HA.out (by simp [label_Key.l0])
     | succ k2 =>
      have H := HA.out
      clear HA
      simp only [label_Key.l0] at H
      by_cases c8 : x26_2 < (l1.length : Int)
      ·rw [if_pos c8] at H
       have c8b0 : decide (x26_2 < (l1.length : Int)) = true := decide_eq_true c8
       clear c8
       by_cases c9 : 0 ≤ x26_2
       ·rw [if_pos c9] at H
        have c9b0 : decide (0 ≤ x26_2) = true := decide_eq_true c9
        clear c9
        by_cases c10 : x26_2 < (l1.length : Int)
        ·rw [if_pos c10] at H
         have c10b0 : decide (x26_2 < (l1.length : Int)) = true := decide_eq_true c10
         clear c10
         obtain ⟨y163, hy163⟩ : ∃ y_ : List ByteArray, y_ = (([(⟨#[97, 98, 99, 100, 101, 102, 103, 104, 105, 106, 107, 108, 109, 110, 111, 112, 113, 114, 115, 116, 117, 118, 119, 120, 121, 122]⟩ : ByteArray), (⟨#[65, 66, 67, 68, 69, 70, 71, 72, 73, 74, 75, 76, 77, 78, 79, 80, 81, 82, 83, 84, 85, 86, 87, 88, 89, 90]⟩ : ByteArray), (⟨#[48, 49, 50, 51, 52, 53, 54, 55, 56, 57]⟩ : ByteArray), (⟨#[45]⟩ : ByteArray)] : List ByteArray)) := ⟨_, rfl⟩
         replace H : ((label_of.f (rdOf ByteArray.empty l1 x26_2) 16 y163).bind fun t166 => (if t166 = true then (label_Key.l0 k2 a0 l1 l1 (l1.length : Int) (wrap64 (x26_2 + 1))) else (some ((⟨#[]⟩ : ByteArray), 20)))) = some (r1, r2) := by first | (rw [hy163]; with_reducible exact H) | (have H2_ := (Option.bind_some _ _).symm.trans H; rw [hy163]; with_reducible exact H2_) | (have H2_ := (Option.bind_some _ _).symm.trans H; with_reducible exact H2_) | with_reducible exact H | (rw [hy163]; exact H) | exact H
         have Ny163 := a_ hy163
         clear hy163
         replace H := Option.bind_eq_some_iff.mp H
         obtain ⟨t166, A110, H⟩ := H
         replace H : (if t166 = true then (label_Key.l0 k2 a0 l1 l1 (l1.length : Int) (wrap64 (x26_2 + 1))) else (some ((⟨#[]⟩ : ByteArray), 20))) = some (r1, r2) := H
         have A11 := a_ A110
         clear A110
         by_cases c12 : t166 = true
         ·subst c12
          have H1 : (label_Key.l0 k2 a0 l1 l1 (l1.length : Int) (wrap64 (x26_2 + 1))) = some (r1, r2) := by rw [if_pos rfl] at H; exact H
          clear H
          have H := H1
          clear H1
          have H' := a_ H
          clear H
          have p162 : 0 ≤ (x26_2 : Int) := of_decide_eq_true z70_
          have q162 : x26_2 < (l1.length : Int) := of_decide_eq_true z70_
          obtain ⟨ad162, e162, hx162_0⟩ := Kd.at_string HR1.out x26_2 p162 q162
          cases e162
          replace hx162_0 := (HB.out.cell (World.block_lt_of_cell? w _ hx162_0)).trans hx162_0
          replace p162 := eq_true p162
          replace q162 := eq_true q162
          go_wp2_with (first | ((with_reducible refine gate_dst (N := 31) rfl ?_); (try (refine gate_guard (by rfl) ?_; dsimp only)); refine Kd.R_lit Kd.string _ 9 ?hg (N := 31) ?hd (xs := ([(⟨#[97, 98, 99, 100, 101, 102, 103, 104, 105, 106, 107, 108, 109, 110, 111, 112, 113, 114, 115, 116, 117, 118, 119, 120, 121, 122]⟩ : ByteArray), (⟨#[65, 66, 67, 68, 69, 70, 71, 72, 73, 74, 75, 76, 77, 78, 79, 80, 81, 82, 83, 84, 85, 86, 87, 88, 89, 90]⟩ : ByteArray), (⟨#[48, 49, 50, 51, 52, 53, 54, 55, 56, 57]⟩ : ByteArray), (⟨#[45]⟩ : ByteArray)] : List ByteArray)) (inner := [.string (⟨#[97, 98, 99, 100, 101, 102, 103, 104, 105, 106, 107, 108, 109, 110, 111, 112, 113, 114, 115, 116, 117, 118, 119, 120, 121, 122]⟩ : ByteArray), .string (⟨#[65, 66, 67, 68, 69, 70, 71, 72, 73, 74, 75, 76, 77, 78, 79, 80, 81, 82, 83, 84, 85, 86, 87, 88, 89, 90]⟩ : ByteArray), .string (⟨#[48, 49, 50, 51, 52, 53, 54, 55, 56, 57]⟩ : ByteArray), .string (⟨#[45]⟩ : ByteArray)]) (ok := fun _ => True) (okp := fun _ => True) ?hr ?hp (fun _ hk => hk) trivial (Below.refl _ _) (Nat.le_refl _) (by simp) ?_; (case hd => rfl); (case hg => rfl); (case hr => first | (go_simp; done) | (go_simp; rfl)); (case hp => exact (Reps.one (show Kd.M Kd.string _ _ _ (⟨#[97, 98, 99, 100, 101, 102, 103, 104, 105, 106, 107, 108, 109, 110, 111, 112, 113, 114, 115, 116, 117, 118, 119, 120, 121, 122]⟩ : ByteArray) [.string (⟨#[97, 98, 99, 100, 101, 102, 103, 104, 105, 106, 107, 108, 109, 110, 111, 112, 113, 114, 115, 116, 117, 118, 119, 120, 121, 122]⟩ : ByteArray)] from rfl) (Reps.one (show Kd.M Kd.string _ _ _ (⟨#[65, 66, 67, 68, 69, 70, 71, 72, 73, 74, 75, 76, 77, 78, 79, 80, 81, 82, 83, 84, 85, 86, 87, 88, 89, 90]⟩ : ByteArray) [.string (⟨#[65, 66, 67, 68, 69, 70, 71, 72, 73, 74, 75, 76, 77, 78, 79, 80, 81, 82, 83, 84, 85, 86, 87, 88, 89, 90]⟩ : ByteArray)] from rfl) (Reps.one (show Kd.M Kd.string _ _ _ (⟨#[48, 49, 50, 51, 52, 53, 54, 55, 56, 57]⟩ : ByteArray) [.string (⟨#[48, 49, 50, 51, 52, 53, 54, 55, 56, 57]⟩ : ByteArray)] from rfl) (Reps.one (show Kd.M Kd.string _ _ _ (⟨#[45]⟩ : ByteArray) [.string (⟨#[45]⟩ : ByteArray)] from rfl) (Reps.none _ _)))))); intro v164 w13 ho14 hb hg_ hnew_; clear hg_ hnew_; (first | rw [← Ny163.out] at ho14 | (simp only [Int.reduceToNat] at ho14; rw [← Ny163.out] at ho14)); have n0_ := a_ (Kd.R_lower ho14 (below_size z33_)); have n1_ := a_ (below_step z33_ hb); clear HB; have HO165 := n0_; have HB := n1_; clear n0_ n1_; clear hb ho14; obtain ⟨Ao15, co15, eo15⟩ := Kd.R_slice HO165.out; subst eo15) | ((with_reducible refine gate_callee (f := 42) rfl ?_); refine goesL_ (some 32) rfl rfl Tryz.func42 z74_ rfl #[.string (rdOf ByteArray.empty l1 x26_2), .int .i64 16, .slice Ao15 y163.length co15] rfl z19_ ?_; (with_reducible refine (label_of.calls (rdOf ByteArray.empty l1 x26_2) 16 _ _ y163 true _ ?side1 ?side2 ?side3 A11.out).mono ?_); (case side1 => exact Glob.below HG.out z33_); (case side2 => repeat (first | exact (Kd.R_reads' HO165.out).2.2 | (with_reducible refine Kd.C_alloc ?_ _) | (with_reducible refine Kd.C_drewN ?_ _) | (with_reducible refine Kd.C_drew ?_))); (case side3 => exact (Kd.R_reads' HO165.out).2.1); rintro e w16 ⟨rfl, hb⟩; refine ⟨_, rfl, ?_⟩; have n0_ := a_ (Kd.R_below (by (with_reducible repeat (first | apply Kd.R_alloc | apply Kd.R_drewN | apply Kd.R_drew)); exact HO165.out) hb); have n1_ := a_ (below_step z33_ hb); clear HO165; clear HB; have HO165 := n0_; have HB := n1_; clear n0_ n1_; (try clear hb); (try clear hb2); (try clear hk); (try clear hi)))
          go_roundg k2
          case measure => have := HJ2.out; have := HK2.out; omega
          case rel => exact ⟨(wrap64 (x26_2 + 1)), z71_, H', ⟨by have := HJ2.out; have := HK2.out; omega⟩, ⟨z33_⟩⟩
         ·replace c12 := Bool.eq_false_iff.mpr c12
          subst c12
          have H1 : (some ((⟨#[]⟩ : ByteArray), 20)) = some (r1, r2) := by rw [if_neg (show ¬ (false = true) by decide)] at H; exact H
          clear H
          have H := H1
          clear H1
          simp only [Option.some.injEq, Prod.mk.injEq] at H
          obtain ⟨rfl, rfl⟩ := H
          have p162 : 0 ≤ (x26_2 : Int) := of_decide_eq_true z70_
          have q162 : x26_2 < (l1.length : Int) := of_decide_eq_true z70_
          obtain ⟨ad162, e162, hx162_0⟩ := Kd.at_string HR1.out x26_2 p162 q162
          cases e162
          replace hx162_0 := (HB.out.cell (World.block_lt_of_cell? w _ hx162_0)).trans hx162_0
          replace p162 := eq_true p162
          replace q162 := eq_true q162
          go_wp2_with (first | ((with_reducible refine gate_dst (N := 31) rfl ?_); (try (refine gate_guard (by rfl) ?_; dsimp only)); refine Kd.R_lit Kd.string _ 9 ?hg (N := 31) ?hd (xs := ([(⟨#[97, 98, 99, 100, 101, 102, 103, 104, 105, 106, 107, 108, 109, 110, 111, 112, 113, 114, 115, 116, 117, 118, 119, 120, 121, 122]⟩ : ByteArray), (⟨#[65, 66, 67, 68, 69, 70, 71, 72, 73, 74, 75, 76, 77, 78, 79, 80, 81, 82, 83, 84, 85, 86, 87, 88, 89, 90]⟩ : ByteArray), (⟨#[48, 49, 50, 51, 52, 53, 54, 55, 56, 57]⟩ : ByteArray), (⟨#[45]⟩ : ByteArray)] : List ByteArray)) (inner := [.string (⟨#[97, 98, 99, 100, 101, 102, 103, 104, 105, 106, 107, 108, 109, 110, 111, 112, 113, 114, 115, 116, 117, 118, 119, 120, 121, 122]⟩ : ByteArray), .string (⟨#[65, 66, 67, 68, 69, 70, 71, 72, 73, 74, 75, 76, 77, 78, 79, 80, 81, 82, 83, 84, 85, 86, 87, 88, 89, 90]⟩ : ByteArray), .string (⟨#[48, 49, 50, 51, 52, 53, 54, 55, 56, 57]⟩ : ByteArray), .string (⟨#[45]⟩ : ByteArray)]) (ok := fun _ => True) (okp := fun _ => True) ?hr ?hp (fun _ hk => hk) trivial (Below.refl _ _) (Nat.le_refl _) (by simp) ?_; (case hd => rfl); (case hg => rfl); (case hr => first | (go_simp; done) | (go_simp; rfl)); (case hp => exact (Reps.one (show Kd.M Kd.string _ _ _ (⟨#[97, 98, 99, 100, 101, 102, 103, 104, 105, 106, 107, 108, 109, 110, 111, 112, 113, 114, 115, 116, 117, 118, 119, 120, 121, 122]⟩ : ByteArray) [.string (⟨#[97, 98, 99, 100, 101, 102, 103, 104, 105, 106, 107, 108, 109, 110, 111, 112, 113, 114, 115, 116, 117, 118, 119, 120, 121, 122]⟩ : ByteArray)] from rfl) (Reps.one (show Kd.M Kd.string _ _ _ (⟨#[65, 66, 67, 68, 69, 70, 71, 72, 73, 74, 75, 76, 77, 78, 79, 80, 81, 82, 83, 84, 85, 86, 87, 88, 89, 90]⟩ : ByteArray) [.string (⟨#[65, 66, 67, 68, 69, 70, 71, 72, 73, 74, 75, 76, 77, 78, 79, 80, 81, 82, 83, 84, 85, 86, 87, 88, 89, 90]⟩ : ByteArray)] from rfl) (Reps.one (show Kd.M Kd.string _ _ _ (⟨#[48, 49, 50, 51, 52, 53, 54, 55, 56, 57]⟩ : ByteArray) [.string (⟨#[48, 49, 50, 51, 52, 53, 54, 55, 56, 57]⟩ : ByteArray)] from rfl) (Reps.one (show Kd.M Kd.string _ _ _ (⟨#[45]⟩ : ByteArray) [.string (⟨#[45]⟩ : ByteArray)] from rfl) (Reps.none _ _)))))); intro v164 w17 ho18 hb hg_ hnew_; clear hg_ hnew_; (first | rw [← Ny163.out] at ho18 | (simp only [Int.reduceToNat] at ho18; rw [← Ny163.out] at ho18)); have n0_ := a_ (Kd.R_lower ho18 (below_size z33_)); have n1_ := a_ (below_step z33_ hb); clear HB; have HO165 := n0_; have HB := n1_; clear n0_ n1_; clear hb ho18; obtain ⟨Ao19, co19, eo19⟩ := Kd.R_slice HO165.out; subst eo19) | ((with_reducible refine gate_callee (f := 42) rfl ?_); refine goesL_ (some 32) rfl rfl Tryz.func42 z74_ rfl #[.string (rdOf ByteArray.empty l1 x26_2), .int .i64 16, .slice Ao19 y163.length co19] rfl z19_ ?_; (with_reducible refine (label_of.calls (rdOf ByteArray.empty l1 x26_2) 16 _ _ y163 false _ ?side1 ?side2 ?side3 A11.out).mono ?_); (case side1 => exact Glob.below HG.out z33_); (case side2 => repeat (first | exact (Kd.R_reads' HO165.out).2.2 | (with_reducible refine Kd.C_alloc ?_ _) | (with_reducible refine Kd.C_drewN ?_ _) | (with_reducible refine Kd.C_drew ?_))); (case side3 => exact (Kd.R_reads' HO165.out).2.1); rintro e w20 ⟨rfl, hb⟩; refine ⟨_, rfl, ?_⟩; have n0_ := a_ (Kd.R_below (by (with_reducible repeat (first | apply Kd.R_alloc | apply Kd.R_drewN | apply Kd.R_drew)); exact HO165.out) hb); have n1_ := a_ (below_step z33_ hb); clear HO165; clear HB; have HO165 := n0_; have HB := n1_; clear n0_ n1_; (try clear hb); (try clear hb2); (try clear hk); (try clear hi)))
          go_ret2
          exact ⟨z64_, z33_⟩
        ·rw [if_neg c10] at H
         exact absurd H (by simp)
       ·rw [if_neg c9] at H
        exact absurd H (by simp)
      ·rw [if_neg c8] at H
       have c8b0 : decide (x26_2 < (l1.length : Int)) = false := decide_eq_false c8
       clear c8
       obtain ⟨y167, hy167⟩ : ∃ y_ : List Int, y_ = (([a0] : List Int)) := ⟨_, rfl⟩
       replace H : (if (strOfNums y167).size + 1 ≤ 9223372036854775807 then ((strings_Join.f l1 (⟨#[124]⟩ : ByteArray)).bind fun t170 => (if ((strOfNums y167) ++ (⟨#[124]⟩ : ByteArray)).size + t170.size ≤ 9223372036854775807 then (some (((strOfNums y167) ++ (⟨#[124]⟩ : ByteArray)) ++ t170, 0)) else (none))) else (none)) = some (r1, r2) := by first | (rw [hy167]; with_reducible exact H) | (have H2_ := (Option.bind_some _ _).symm.trans H; rw [hy167]; with_reducible exact H2_) | (have H2_ := (Option.bind_some _ _).symm.trans H; with_reducible exact H2_) | with_reducible exact H | (rw [hy167]; exact H) | exact H
       have Ny167 := a_ hy167
       clear hy167
       by_cases c21 : (strOfNums y167).size + 1 ≤ 9223372036854775807
       ·rw [if_pos c21] at H
        have c21b0 := eq_true c21
        have c21b1 : decide ((strOfNums y167).size + 1 ≤ 9223372036854775807) = true := decide_eq_true c21
        try have c21b2 : (9223372036854775807 < (strOfNums y167).size + 1) = False := eq_false (Nat.not_lt.2 c21)
        replace H := Option.bind_eq_some_iff.mp H
        obtain ⟨t170, A220, H⟩ := H
        replace H : (if ((strOfNums y167) ++ (⟨#[124]⟩ : ByteArray)).size + t170.size ≤ 9223372036854775807 then (some (((strOfNums y167) ++ (⟨#[124]⟩ : ByteArray)) ++ t170, 0)) else (none)) = some (r1, r2) := H
        have A22 := a_ A220
        clear A220
        by_cases c23 : ((strOfNums y167) ++ (⟨#[124]⟩ : ByteArray)).size + t170.size ≤ 9223372036854775807
        ·rw [if_pos c23] at H
         have c23b0 := eq_true c23
         have c23b1 : decide (((strOfNums y167) ++ (⟨#[124]⟩ : ByteArray)).size + t170.size ≤ 9223372036854775807) = true := decide_eq_true c23
         try have c23b2 : (9223372036854775807 < ((strOfNums y167) ++ (⟨#[124]⟩ : ByteArray)).size + t170.size) = False := eq_false (Nat.not_lt.2 c23)
         try have c23b3 : (9223372036854775807 < (strOfNums y167).size + 1 + t170.size) = False := by have h_ := c23b2; simp only [ByteArray.size_append] at h_; exact h_
         simp only [Option.some.injEq, Prod.mk.injEq] at H
         obtain ⟨rfl, rfl⟩ := H
         try go_wp2
         have n0_ := a_ (below_drew1 HB.out)
         clear HB
         have HB := n0_
         clear n0_
         refine start_ (n := 9) (S := fun w' => True) (ds := []) #[false, false, false, false, false, false, false, false, false] z74_ rfl rfl trivial (fun hHeld => ?_); refine with_tabW label_Key.tab9 label_Key.bits9 (fun HT_ HW_ => ?_)
         generalize wr.drew = w24 at HB hHeld ⊢
         refine pure_ (i := 0) (N := some 35) (v := ?_) (a' := ?_) #[true, false, false, false, false, false, false, false, false] rfl rfl (any_of HT_.out z74_) (fun _ _ _ h => h) (Or.inl ⟨by rfl, ?_⟩) ?_ ?_
         rotate_left
         ·intro w'
          go_simp
          with_reducible rfl
         rotate_left
         ·simp only [Act.put, sT_, s0_, sS_, i64_w, i32_w]
          rfl
         refine pure_ (i := 4) (N := some 39) (v := ?_) (a' := ?_) #[true, false, false, false, true, false, false, false, false] rfl rfl (any_of HT_.out z74_) (fun _ _ _ h => h) (Or.inl ⟨by rfl, ?_⟩) ?_ ?_
         rotate_left
         ·intro w'
          go_simp
          with_reducible rfl
         rotate_left
         ·simp only [Act.put, sT_, s0_, sS_, i64_w, i32_w]
          rfl
         refine join_ (σ := Value) 3 #[true, true, true, true, true, true, false, false, false] (fun s_ => [(36, s_), (37, .string (strOfNums y167)), (40, .string t170), (38, .string ((strOfNums y167) ++ (⟨#[124]⟩ : ByteArray)))]) (fun s_ w' => (Kd.R (Kd.int .u8) 5 w' w.heap.size (fun _ => True) s_ y167) ∧ (Below w.heap.size w w')) ?_ ?_
         rotate_left
         ·intro hCont
          refine two_ (i := 1) (j := 5) (Ni := some 36) (Nj := some 40) #[true, true, false, false, true, false, false, false, false] #[true, false, false, false, true, true, false, false, false] rfl rfl rfl rfl (two_of HT_.out z74_) (by decide) (by decide) (fun K hK => ?_) (fun K hK => ?_)
          ·skip
           refine Kd.R_lit_step (Kd.int .u8) _ 5 ?hg (N := 36) ?hd (xs := ([a0] : List Int)) (inner := [.int .u8 a0]) (ok := fun _ => True) (okp := fun _ => True) ?hr ?hp (fun _ hk => hk) trivial (Below.refl _ _) (Nat.le_refl _) (by simp) ?_; (case hd => rfl); (case hg => rfl); (case hr => first | (go_simp; done) | (go_simp; rfl)); (case hp => exact (Reps.one (show Kd.M (Kd.int .u8) _ _ _ a0 [.int .u8 a0] from rfl) (Reps.none _ _)))
           intro v168 w25 ho26 hb hg_ hnew_
           clear hg_ hnew_
           (first | rw [← Ny167.out] at ho26 | (simp only [Int.reduceToNat] at ho26; rw [← Ny167.out] at ho26))
           have n0_ := a_ (Kd.R_lower ho26 (below_size z33_))
           have n1_ := a_ (below_step z33_ hb)
           clear HB
           have HO169 := n0_
           have HB := n1_
           clear n0_ n1_
           clear hb ho26
           refine hK.out _ _ trivial (fun hHeld => ?_)
           clear hK K
           refine norm_ (a' := ?_) ?_ ?_
           rotate_left
           ·show Act.put _ (some 36) _ = _
            simp only [Act.put, sT_, s0_, sS_, i64_w, i32_w]
            rfl
           refine two_ (i := 2) (j := 5) (Ni := some 37) (Nj := some 40) #[true, true, true, false, true, false, false, false, false] #[true, true, false, false, true, true, false, false, false] rfl rfl rfl rfl (two_of HT_.out z74_) (by decide) (by decide) (fun K hK => ?_) (fun K hK => ?_)
           ·skip
            have hcv27 := own_string (P := Tryz.prog) Tryz.underlying72 Tryz.underlying5 Tryz.underlying9 (Kd.own_of_R HO169.out)
            refine value_ (w1 := ?_) (v := ?_) (by rfl) rfl ?_ ?_
            rotate_left 2
            ·go_simp
             constructor
             ·rfl
             ·rfl
            clear hcv27
            refine hK.out _ _ trivial (fun hHeld => ?_)
            clear hK K
            refine norm_ (a' := ?_) ?_ ?_
            rotate_left
            ·show Act.put _ (some 37) _ = _
             simp only [Act.put, sT_, s0_, sS_, i64_w, i32_w]
             rfl
            refine pure_ (i := 3) (N := some 38) (v := ?_) (a' := ?_) #[true, true, true, true, true, false, false, false, false] rfl rfl (any_of HT_.out z74_) (fun _ _ _ h => h) (Or.inl ⟨by rfl, ?_⟩) ?_ ?_
            rotate_left
            ·intro w'
             go_simp
             with_reducible rfl
            rotate_left
            ·simp only [Act.put, sT_, s0_, sS_, i64_w, i32_w]
             rfl
            refine one_ (i := 5) (N := some 40) #[true, true, true, true, true, true, false, false, false] rfl rfl (one_of HT_.out z74_) (by decide) (fun K hK => ?_)
            refine goes_ Tryz.func40 z74_ rfl #[.slice A1 l1.length c1, .string (⟨#[124]⟩ : ByteArray)] (by rfl) rfl rfl z19_ ?_
            with_reducible refine (strings_Join.calls _ _ l1 (⟨#[124]⟩ : ByteArray) t170 _ ?side1 ?side2 ?side3 A22.out).mono ?_
            (case side1 => exact Glob.below HG.out z33_)
            (case side2 => repeat (first | exact (Kd.C_below HR1.out HB.out) | (with_reducible refine Kd.C_alloc ?_ _) | (with_reducible refine Kd.C_drewN ?_ _) | (with_reducible refine Kd.C_drew ?_)))
            (case side3 => exact HC1.out)
            rintro e w28 ⟨rfl, hb⟩
            refine ⟨_, rfl, ?_⟩
            have n0_ := a_ (Kd.R_below z35_ hb)
            have n1_ := a_ (below_step z33_ hb)
            clear HO169
            clear HB
            have HO169 := n0_
            have HB := n1_
            clear n0_ n1_
            (try clear hb)
            (try clear hb2)
            (try clear hk)
            (try clear hi)
            refine hK.out _ _ trivial (fun hHeld => ?_)
            clear hK K
            refine norm_ (a' := ?_) ?_ ?_
            rotate_left
            ·show Act.put _ (some 40) _ = _
             simp only [Act.put, sT_, s0_, sS_, i64_w, i32_w]
             rfl
            exact norm_ (by simp only [putAll, Act.put, sT_, s0_, sS_]) (hCont (v168) _ ⟨z35_, z33_⟩)
           ·skip
            refine goes_ Tryz.func40 z74_ rfl #[.slice A1 l1.length c1, .string (⟨#[124]⟩ : ByteArray)] (by rfl) rfl rfl z19_ ?_
            with_reducible refine (strings_Join.calls _ _ l1 (⟨#[124]⟩ : ByteArray) t170 _ ?side1 ?side2 ?side3 A22.out).mono ?_
            (case side1 => exact Glob.below HG.out z33_)
            (case side2 => repeat (first | exact (Kd.C_below HR1.out HB.out) | (with_reducible refine Kd.C_alloc ?_ _) | (with_reducible refine Kd.C_drewN ?_ _) | (with_reducible refine Kd.C_drew ?_)))
            (case side3 => exact HC1.out)
            rintro e w27 ⟨rfl, hb⟩
            refine ⟨_, rfl, ?_⟩
            have n0_ := a_ (Kd.R_below z35_ hb)
            have n1_ := a_ (below_step z33_ hb)
            clear HO169
            clear HB
            have HO169 := n0_
            have HB := n1_
            clear n0_ n1_
            (try clear hb)
            (try clear hb2)
            (try clear hk)
            (try clear hi)
            refine hK.out _ _ trivial (fun hHeld => ?_)
            clear hK K
            refine norm_ (a' := ?_) ?_ ?_
            rotate_left
            ·show Act.put _ (some 40) _ = _
             simp only [Act.put, sT_, s0_, sS_, i64_w, i32_w]
             rfl
            refine one_ (i := 2) (N := some 37) #[true, true, true, false, true, true, false, false, false] rfl rfl (one_of HT_.out z74_) (by decide) (fun K hK => ?_)
            have hcv28 := own_string (P := Tryz.prog) Tryz.underlying72 Tryz.underlying5 Tryz.underlying9 (Kd.own_of_R HO169.out)
            refine value_ (w1 := ?_) (v := ?_) (by rfl) rfl ?_ ?_
            rotate_left 2
            ·go_simp
             constructor
             ·rfl
             ·rfl
            clear hcv28
            refine hK.out _ _ trivial (fun hHeld => ?_)
            clear hK K
            refine norm_ (a' := ?_) ?_ ?_
            rotate_left
            ·show Act.put _ (some 37) _ = _
             simp only [Act.put, sT_, s0_, sS_, i64_w, i32_w]
             rfl
            refine pure_ (i := 3) (N := some 38) (v := ?_) (a' := ?_) #[true, true, true, true, true, true, false, false, false] rfl rfl (any_of HT_.out z74_) (fun _ _ _ h => h) (Or.inl ⟨by rfl, ?_⟩) ?_ ?_
            rotate_left
            ·intro w'
             go_simp
             with_reducible rfl
            rotate_left
            ·simp only [Act.put, sT_, s0_, sS_, i64_w, i32_w]
             rfl
            exact norm_ (by simp only [putAll, Act.put, sT_, s0_, sS_]) (hCont (v168) _ ⟨z35_, z33_⟩)
          ·skip
           refine goes_ Tryz.func40 z74_ rfl #[.slice A1 l1.length c1, .string (⟨#[124]⟩ : ByteArray)] (by rfl) rfl rfl z19_ ?_
           with_reducible refine (strings_Join.calls _ _ l1 (⟨#[124]⟩ : ByteArray) t170 _ ?side1 ?side2 ?side3 A22.out).mono ?_
           (case side1 => exact Glob.below HG.out z33_)
           (case side2 => repeat (first | exact (Kd.C_below HR1.out HB.out) | (with_reducible refine Kd.C_alloc ?_ _) | (with_reducible refine Kd.C_drewN ?_ _) | (with_reducible refine Kd.C_drew ?_)))
           (case side3 => exact HC1.out)
           rintro e w25 ⟨rfl, hb⟩
           refine ⟨_, rfl, ?_⟩
           have n0_ := a_ (below_step z33_ hb)
           clear HB
           have HB := n0_
           clear n0_
           (try clear hb)
           (try clear hb2)
           (try clear hk)
           (try clear hi)
           refine hK.out _ _ trivial (fun hHeld => ?_)
           clear hK K
           refine norm_ (a' := ?_) ?_ ?_
           rotate_left
           ·show Act.put _ (some 40) _ = _
            simp only [Act.put, sT_, s0_, sS_, i64_w, i32_w]
            rfl
           refine one_ (i := 1) (N := some 36) #[true, true, false, false, true, true, false, false, false] rfl rfl (one_of HT_.out z74_) (by decide) (fun K hK => ?_)
           refine Kd.R_lit_step (Kd.int .u8) _ 5 ?hg (N := 36) ?hd (xs := ([a0] : List Int)) (inner := [.int .u8 a0]) (ok := fun _ => True) (okp := fun _ => True) ?hr ?hp (fun _ hk => hk) trivial (Below.refl _ _) (Nat.le_refl _) (by simp) ?_; (case hd => rfl); (case hg => rfl); (case hr => first | (go_simp; done) | (go_simp; rfl)); (case hp => exact (Reps.one (show Kd.M (Kd.int .u8) _ _ _ a0 [.int .u8 a0] from rfl) (Reps.none _ _)))
           intro v168 w26 ho27 hb hg_ hnew_
           clear hg_ hnew_
           (first | rw [← Ny167.out] at ho27 | (simp only [Int.reduceToNat] at ho27; rw [← Ny167.out] at ho27))
           have n0_ := a_ (Kd.R_lower ho27 (below_size z33_))
           have n1_ := a_ (below_step z33_ hb)
           clear HB
           have HO169 := n0_
           have HB := n1_
           clear n0_ n1_
           clear hb ho27
           refine hK.out _ _ trivial (fun hHeld => ?_)
           clear hK K
           refine norm_ (a' := ?_) ?_ ?_
           rotate_left
           ·show Act.put _ (some 36) _ = _
            simp only [Act.put, sT_, s0_, sS_, i64_w, i32_w]
            rfl
           refine one_ (i := 2) (N := some 37) #[true, true, true, false, true, true, false, false, false] rfl rfl (one_of HT_.out z74_) (by decide) (fun K hK => ?_)
           have hcv28 := own_string (P := Tryz.prog) Tryz.underlying72 Tryz.underlying5 Tryz.underlying9 (Kd.own_of_R HO169.out)
           refine value_ (w1 := ?_) (v := ?_) (by rfl) rfl ?_ ?_
           rotate_left 2
           ·go_simp
            constructor
            ·rfl
            ·rfl
           clear hcv28
           refine hK.out _ _ trivial (fun hHeld => ?_)
           clear hK K
           refine norm_ (a' := ?_) ?_ ?_
           rotate_left
           ·show Act.put _ (some 37) _ = _
            simp only [Act.put, sT_, s0_, sS_, i64_w, i32_w]
            rfl
           refine pure_ (i := 3) (N := some 38) (v := ?_) (a' := ?_) #[true, true, true, true, true, true, false, false, false] rfl rfl (any_of HT_.out z74_) (fun _ _ _ h => h) (Or.inl ⟨by rfl, ?_⟩) ?_ ?_
           rotate_left
           ·intro w'
            go_simp
            with_reducible rfl
           rotate_left
           ·simp only [Act.put, sT_, s0_, sS_, i64_w, i32_w]
            rfl
           exact norm_ (by simp only [putAll, Act.put, sT_, s0_, sS_]) (hCont (v168) _ ⟨z35_, z33_⟩)
         rintro v168 w29 ⟨h0_, h1_⟩
         have n0_ : Aside0 (Kd.R (Kd.int .u8) 5 w29 w.heap.size (fun _ => True) v168 y167) := ⟨h0_⟩
         have n1_ : Aside0 (Below w.heap.size w w29) := ⟨h1_⟩
         clear HB
         clear h0_ h1_
         have HO169 := n0_
         have HB := n1_
         clear n0_ n1_
         have hHeld := trivial
         refine norm_ (a' := ?_) ?_ ?_
         rotate_left
         ·simp only [putAll, Act.put, sT_, s0_, sS_]
          rfl
         refine pure_ (i := 6) (N := some 41) (v := ?_) (a' := ?_) #[true, true, true, true, true, true, true, false, false] rfl rfl (any_of HT_.out z74_) (fun _ _ _ h => h) (Or.inl ⟨by rfl, ?_⟩) ?_ ?_
         rotate_left
         ·intro w'
          go_simp
          with_reducible rfl
         rotate_left
         ·simp only [Act.put, sT_, s0_, sS_, i64_w, i32_w]
          rfl
         refine pure_ (i := 7) (N := some 4) (v := ?_) (a' := ?_) #[true, true, true, true, true, true, true, true, false] rfl rfl (any_of HT_.out z74_) (fun _ _ _ h => h) (Or.inl ⟨by rfl, ?_⟩) ?_ ?_
         rotate_left
         ·intro w'
          go_simp
          with_reducible rfl
         rotate_left
         ·simp only [Act.put, sT_, s0_, sS_, i64_w, i32_w]
          rfl
         refine pure_ (i := 8) (N := some 5) (v := ?_) (a' := ?_) #[true, true, true, true, true, true, true, true, true] rfl rfl (any_of HT_.out z74_) (fun _ _ _ h => h) (Or.inl ⟨by rfl, ?_⟩) ?_ ?_
         rotate_left
         ·intro w'
          go_simp
          with_reducible rfl
         rotate_left
         ·simp only [Act.put, sT_, s0_, sS_, i64_w, i32_w]
          rfl
         refine done_ (done_of HT_.out z74_) ?_
         try go_wp2
         go_ret2
         exact ⟨z64_, z33_⟩
        ·rw [if_neg c23] at H
         exact absurd H (by simp)
       ·rw [if_neg c21] at H
        exact absurd H (by simp)

/-! ### journal_pair: function 21 -/
def journal_pair.f (k : Nat) (a0 : Int) (a1 : ByteArray) (l2 : List ByteArray) : Option (ByteArray × ByteArray) := (label_Digits.f a0).bind fun t172 => ((label_Key.f k 101 (([t172, a1] : List ByteArray))).bind fun bt176 => ((strings_Join.f l2 (⟨#[124]⟩ : ByteArray)).bind fun t178 => (some (bt176.1, t178))))
theorem journal_pair.mono : ∀ a0 a1 a2 k, LeO (journal_pair.f k a0 a1 a2) (journal_pair.f (k + 1) a0 a1 a2) := by
 intro a0 a1 a2 k
 unfold journal_pair.f
 repeat' first
   | (with_reducible exact label_Key.mono _ _ _)
   | (with_reducible first | exact LeO.refl _ | exact LeO.none _ | refine LeO.ite ?_ ?_ | refine LeO.bind ?_ fun _ => ?_)
   | exact label_Key.mono _ _ _
set_option maxHeartbeats 8000000 in
set_option maxRecDepth 100000 in
theorem journal_pair.calls (k : Nat) (a0 : Int) (a1 : ByteArray) (A2 : Option Addr) (c2 : Nat) (l2 : List ByteArray) (r1 : ByteArray) (r2 : ByteArray) (w : World) (hG : Glob w) (hr2 : Kd.C Kd.string w A2 l2.length l2) (hc2 : l2.length ≤ c2) (h : journal_pair.f k a0 a1 l2 = some (r1, r2)) :
  Calls Tryz.prog 21 #[.int .u64 a0, .string a1, .slice A2 l2.length c2] w fun e w' => e = .returned (.agg #[.string r1, .string r2]) ∧ Below w.heap.size w w' := by
 have hu26 := Tryz.underlying26
 have HG := a_ hG
 clear hG
 have HR2 := a_ hr2
 have HC2 := a_ hc2
 clear hr2 hc2
 have HB := a_ (Below.refl w.heap.size w)
 have H : ((label_Digits.f a0).bind fun t172 => ((label_Key.f k 101 (([t172, a1] : List ByteArray))).bind fun bt176 => ((strings_Join.f l2 (⟨#[124]⟩ : ByteArray)).bind fun t178 => (some (bt176.1, t178))))) = some (r1, r2) := h
 clear h
 replace H := Option.bind_eq_some_iff.mp H
 obtain ⟨t172, A40, H⟩ := H
 replace H : ((label_Key.f k 101 (([t172, a1] : List ByteArray))).bind fun bt176 => ((strings_Join.f l2 (⟨#[124]⟩ : ByteArray)).bind fun t178 => (some (bt176.1, t178)))) = some (r1, r2) := H
 have A4 := a_ A40
 clear A40
 obtain ⟨y173, hy173⟩ : ∃ y_ : List ByteArray, y_ = (([t172, a1] : List ByteArray)) := ⟨_, rfl⟩
 replace H : ((label_Key.f k 101 y173).bind fun bt176 => ((strings_Join.f l2 (⟨#[124]⟩ : ByteArray)).bind fun t178 => (some (bt176.1, t178)))) = some (r1, r2) := by first | (rw [hy173]; with_reducible exact H) | (have H2_ := (Option.bind_some _ _).symm.trans H; rw [hy173]; with_reducible exact H2_) | (have H2_ := (Option.bind_some _ _).symm.trans H; with_reducible exact H2_) | with_reducible exact H | (rw [hy173]; exact H) | exact H
 have Ny173 := a_ hy173
 clear hy173
 replace H := Option.bind_eq_some_iff.mp H
 obtain ⟨⟨t176, t177⟩, A50, H⟩ := H
 replace H : ((strings_Join.f l2 (⟨#[124]⟩ : ByteArray)).bind fun t178 => (some (t176, t178))) = some (r1, r2) := H
 have A5 := a_ A50
 clear A50
 replace H := Option.bind_eq_some_iff.mp H
 obtain ⟨t178, A60, H⟩ := H
 replace H : (some (t176, t178)) = some (r1, r2) := H
 have A6 := a_ A60
 clear A60
 simp only [Option.some.injEq, Prod.mk.injEq] at H
 obtain ⟨rfl, rfl⟩ := H
 go_enter Tryz.func21, Tryz.ntmps21
 go_wp2_with (first | ((with_reducible refine gate_dst (N := 6) rfl ?_); refine box_event ?hg (N := 6) ?hd (cs := #[.string (⟨#[]⟩ : ByteArray), .string (⟨#[]⟩ : ByteArray)]) (t := 26) ?hr ?_; (case hd => rfl); (case hg => rfl); (case hr => first | (go_simp; done) | (go_simp; rfl)); intro gb171 hg w7 hbox hb; have n0_ := a_ (below_step z33_ hb); have n1_ := a_ (hbox); have n2_ := a_ ((z20_ : w.heap.size ≤ gb171)); have n3_ := a_ ((z20_ : w.heap.size ≤ gb171)); clear HB; have HB := n0_; have BK171 := n1_; have GW171 := n2_; have GE171 := n3_; clear n0_ n1_ n2_ n3_; clear hb hbox hg) | ((with_reducible refine gate_callee (f := 22) rfl ?_); refine goesL_ (some 11) rfl rfl Tryz.func22 z74_ rfl #[.int .u64 a0] rfl z19_ ?_; (with_reducible refine (label_Digits.calls a0 t172 _ ?side1 A4.out).mono ?_); (case side1 => exact Glob.below HG.out z24_); rintro e w8 ⟨rfl, hb⟩; refine ⟨_, rfl, ?_⟩; have n0_ := a_ (blk_below (g := gb171) (o := .cells #[.string (⟨#[]⟩ : ByteArray), .string (⟨#[]⟩ : ByteArray)] 26 (0, 0)) z54_ hb); have n1_ := a_ (below_step z24_ hb); clear BK171; clear HB; have BK171 := n0_; have HB := n1_; clear n0_ n1_; (try clear hb); (try clear hb2); (try clear hk); (try clear hi)) | ((with_reducible refine gate_dst (N := 13) rfl ?_); refine Kd.R_lit Kd.string _ 9 ?hg (N := 13) ?hd (xs := ([t172, a1] : List ByteArray)) (inner := [.string t172, .string a1]) (ok := fun _ => True) (okp := fun _ => True) ?hr ?hp (fun _ hk => hk) trivial (Below.refl _ _) (Nat.le_refl _) (by simp) ?_; (case hd => rfl); (case hg => rfl); (case hr => first | (go_simp; done) | (go_simp; rfl)); (case hp => exact (Reps.one (show Kd.M Kd.string _ _ _ t172 [.string t172] from rfl) (Reps.one (show Kd.M Kd.string _ _ _ a1 [.string a1] from rfl) (Reps.none _ _)))); intro v174 w9 ho10 hb hg_ hnew_; clear hg_ hnew_; (first | rw [← Ny173.out] at ho10 | (simp only [Int.reduceToNat] at ho10; rw [← Ny173.out] at ho10)); have n0_ := a_ (Kd.R_lower ho10 (below_size z24_)); have n1_ := a_ (blk_below (g := gb171) (o := .cells #[.string (⟨#[]⟩ : ByteArray), .string (⟨#[]⟩ : ByteArray)] 26 (0, 0)) z54_ hb); have n2_ := a_ (below_step z24_ hb); clear BK171; clear HB; have HO175 := n0_; have BK171 := n1_; have HB := n2_; clear n0_ n1_ n2_; clear hb ho10; obtain ⟨Ao11, co11, eo11⟩ := Kd.R_slice HO175.out; subst eo11) | ((with_reducible refine gate_callee (f := 39) rfl ?_); refine goesL_ (some 14) rfl rfl Tryz.func39 z74_ rfl #[.int .u8 101, .slice Ao11 y173.length co11] rfl z19_ ?_; (with_reducible refine (label_Key.calls k 101 _ _ y173 t176 t177 _ ?side1 ?side2 ?side3 A5.out).mono ?_); (case side1 => exact Glob.below HG.out z24_); (case side2 => repeat (first | exact (Kd.R_reads' HO175.out).2.2 | (with_reducible refine Kd.C_alloc ?_ _) | (with_reducible refine Kd.C_drewN ?_ _) | (with_reducible refine Kd.C_drew ?_))); (case side3 => exact (Kd.R_reads' HO175.out).2.1); rintro e w12 ⟨rfl, hb⟩; refine ⟨_, rfl, ?_⟩; have n0_ := a_ (Kd.R_below (by (with_reducible repeat (first | apply Kd.R_alloc | apply Kd.R_drewN | apply Kd.R_drew)); exact HO175.out) hb); have n1_ := a_ (blk_below (g := gb171) (o := .cells #[.string (⟨#[]⟩ : ByteArray), .string (⟨#[]⟩ : ByteArray)] 26 (0, 0)) z54_ hb); have n2_ := a_ (below_step z24_ hb); clear HO175; clear BK171; clear HB; have HO175 := n0_; have BK171 := n1_; have HB := n2_; clear n0_ n1_ n2_; (try clear hb); (try clear hb2); (try clear hk); (try clear hi)) | ((with_reducible refine gate_callee (f := 40) rfl ?_); refine goesL_ (some 19) rfl rfl Tryz.func40 z74_ rfl #[.slice A2 l2.length c2, .string (⟨#[124]⟩ : ByteArray)] rfl z19_ ?_; (with_reducible refine (strings_Join.calls _ _ l2 (⟨#[124]⟩ : ByteArray) t178 _ ?side1 ?side2 ?side3 A6.out).mono ?_); (case side1 => exact Glob.below HG.out z24_); (case side2 => repeat (first | exact (Kd.C_below HR2.out HB.out) | (with_reducible refine Kd.C_alloc ?_ _) | (with_reducible refine Kd.C_drewN ?_ _) | (with_reducible refine Kd.C_drew ?_))); (case side3 => exact HC2.out); rintro e w13 ⟨rfl, hb⟩; refine ⟨_, rfl, ?_⟩; have n0_ := a_ (Kd.R_below (by (with_reducible repeat (first | apply Kd.R_alloc | apply Kd.R_drewN | apply Kd.R_drew)); exact HO175.out) hb); have n1_ := a_ (blk_below (g := gb171) (o := .cells #[.string (⟨#[]⟩ : ByteArray), .string (⟨#[]⟩ : ByteArray)] 26 (0, 0)) z54_ hb); have n2_ := a_ (below_step z24_ hb); clear HO175; clear BK171; clear HB; have HO175 := n0_; have BK171 := n1_; have HB := n2_; clear n0_ n1_ n2_; (try clear hb); (try clear hb2); (try clear hk); (try clear hi); have hcz14_0 : w13.cell? ⟨gb171, 0, none⟩ = some (.string (⟨#[]⟩ : ByteArray)) := (blk_cell BK171.out 0).trans rfl; have hcz14_1 : w13.cell? ⟨gb171, 1, none⟩ = some (.string (⟨#[]⟩ : ByteArray)) := (blk_cell BK171.out 1).trans rfl; have hfz14_0 := blk_frozen BK171.out 0; have hfz14_1 := blk_frozen BK171.out 1))
 refine bodyPost_ret (results_cell_row rfl _ _ gb171 26 #[.string t176, .string t178] (0, 0) _ rfl (by (with_reducible repeat (first | refine kN_ ?_ _ | refine kD_ ?_ | refine kA_ ?_ _)); refine blk_put (cs := #[.string t176, .string (⟨#[]⟩ : ByteArray)]) ?_ 1 _ rfl; (with_reducible repeat (first | refine kN_ ?_ _ | refine kD_ ?_ | refine kA_ ?_ _)); refine blk_put (cs := #[.string (⟨#[]⟩ : ByteArray), .string (⟨#[]⟩ : ByteArray)]) ?_ 0 _ rfl; (with_reducible repeat (first | refine kN_ ?_ _ | refine kD_ ?_ | refine kA_ ?_ _)); exact BK171.out) Tryz.underlying26 rfl z74_) rfl ?_
 exact ⟨z64_, z24_⟩

end Go.Proofs.YtjlifcbddednaaaGreatDoor.P
