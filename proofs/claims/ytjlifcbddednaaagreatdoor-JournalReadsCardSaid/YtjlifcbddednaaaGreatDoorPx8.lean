-- Laid by wip/tools/cprint.py of this claim's own repo (over the kit's print).
import Derived.Test.YtjlifcbddednaaaGreatDoorSq
import Derived.Test.YtjlifcbddednaaaGreatDoorPx0
import Derived.Test.YtjlifcbddednaaaGreatDoorPx7
namespace Go.Proofs.YtjlifcbddednaaaGreatDoor.P
open Go.RowKit Go.Proofs.YtjlifcbddednaaaGreatDoor.E Go.Proofs.YtjlifcbddednaaaGreatDoorW.PrintWords Go.Proofs.YtjlifcbddednaaaGreatDoorW.PrintLast
set_option linter.unusedVariables false
set_option linter.unusedSimpArgs false

/-! ### cambistref01_Parse: function 33 -/
mutual
def cambistref01_Parse.j0 : Nat → ByteArray → ByteArray → Bool → Option (Int × Int)
 | 0, _, _, _ => none
 | k + 1, x0, x4, x5 => if x5 = true then (if 1 ≤ (x0.size : Int) then (cambistref01_Parse.j1 k x0 (x0.extract 1 x0.size) x5) else (none)) else (cambistref01_Parse.j1 k x0 x4 x5)
def cambistref01_Parse.j1 : Nat → ByteArray → ByteArray → Bool → Option (Int × Int)
 | 0, _, _, _ => none
 | k + 1, x0, x4, x5 => if (x4.size : Int) = 0 then (cambistref01_Parse.j2 k x0 x4 x5 true) else (cambistref01_Parse.j2 k x0 x4 x5 (decide ((x4.size : Int) > 19)))
def cambistref01_Parse.j2 : Nat → ByteArray → ByteArray → Bool → Bool → Option (Int × Int)
 | 0, _, _, _, _ => none
 | k + 1, x0, x4, x5, x28 => if x28 = true then (some (0, 11)) else (cambistref01_Parse.l0 k x0 x4 x5 0 0)
def cambistref01_Parse.l0 : Nat → ByteArray → ByteArray → Bool → Int → Int → Option (Int × Int)
 | 0, _, _, _, _, _ => none
 | k + 1, x0, x4, x5, x6, x7 => if x7 < (x4.size : Int) then (if 0 ≤ x7 then (if (bt x4 x7) < 48 then (some (0, 11)) else (if (bt x4 x7) > 57 then (some (0, 11)) else (cambistref01_Parse.l0 k x0 x4 x5 (IntKind.u64.wrap ((IntKind.u64.wrap (x6 * 10)) + (((bt x4 x7) - 48) % 256))) (wrap64 (x7 + 1))))) else (none)) else (if x5 = true then (cambistref01_Parse.j4 k x0 x5 x6 (decide (x6 > 9223372036854775808))) else (if x6 > 9223372036854775807 then (cambistref01_Parse.j4 k x0 x5 x6 true) else (cambistref01_Parse.j4 k x0 x5 x6 false)))
def cambistref01_Parse.j4 : Nat → ByteArray → Bool → Int → Bool → Option (Int × Int)
 | 0, _, _, _, _ => none
 | k + 1, x0, x5, x6, x65 => if x65 = true then (some (0, 11)) else (if x5 = true then ((cambistref01_Text.f k (wrap64 (IntKind.u64.wrap (-x6)))).bind fun t227 => (if t227.toList = x0.toList then (some (wrap64 (IntKind.u64.wrap (-x6)), 0)) else (some (0, 11)))) else ((cambistref01_Text.f k (wrap64 (x6))).bind fun t228 => (if t228.toList = x0.toList then (some (wrap64 (x6), 0)) else (some (0, 11)))))
end
def cambistref01_Parse.f (k : Nat) (a0 : ByteArray) : Option (Int × Int) := if (a0.size : Int) > 0 then (if 0 < (a0.size : Int) then (cambistref01_Parse.j0 k a0 a0 ((bt a0 0) == 45)) else (none)) else (cambistref01_Parse.j0 k a0 a0 false)
theorem cambistref01_Parse.mono_l : ∀ k, (∀ y0 y1 y2, LeO (cambistref01_Parse.j0 k y0 y1 y2) (cambistref01_Parse.j0 (k + 1) y0 y1 y2)) ∧ (∀ y0 y1 y2, LeO (cambistref01_Parse.j1 k y0 y1 y2) (cambistref01_Parse.j1 (k + 1) y0 y1 y2)) ∧ (∀ y0 y1 y2 y3, LeO (cambistref01_Parse.j2 k y0 y1 y2 y3) (cambistref01_Parse.j2 (k + 1) y0 y1 y2 y3)) ∧ (∀ y0 y1 y2 y3 y4, LeO (cambistref01_Parse.l0 k y0 y1 y2 y3 y4) (cambistref01_Parse.l0 (k + 1) y0 y1 y2 y3 y4)) ∧ (∀ y0 y1 y2 y3, LeO (cambistref01_Parse.j4 k y0 y1 y2 y3) (cambistref01_Parse.j4 (k + 1) y0 y1 y2 y3))
 | 0 => ⟨fun _ _ _ r h => by simp [cambistref01_Parse.j0] at h, fun _ _ _ r h => by simp [cambistref01_Parse.j1] at h, fun _ _ _ _ r h => by simp [cambistref01_Parse.j2] at h, fun _ _ _ _ _ r h => by simp [cambistref01_Parse.l0] at h, fun _ _ _ _ r h => by simp [cambistref01_Parse.j4] at h⟩
 | k + 1 => by
  obtain ⟨ih0, ih1, ih2, ih3, ih4⟩ := cambistref01_Parse.mono_l k
  refine ⟨?_, ?_, ?_, ?_, ?_⟩
  ·intro y0 y1 y2
   unfold cambistref01_Parse.j0
   repeat' first
   | (with_reducible exact ih0 _ _ _)
   | (with_reducible exact ih1 _ _ _)
   | (with_reducible exact ih2 _ _ _ _)
   | (with_reducible exact ih3 _ _ _ _ _)
   | (with_reducible exact ih4 _ _ _ _)
   | (with_reducible exact cambistref01_Text.mono _ _)
   | (with_reducible first | exact LeO.refl _ | exact LeO.none _ | refine LeO.ite ?_ ?_ | refine LeO.bind ?_ fun _ => ?_)
   | exact ih0 _ _ _
   | exact ih1 _ _ _
   | exact ih2 _ _ _ _
   | exact ih3 _ _ _ _ _
   | exact ih4 _ _ _ _
   | exact cambistref01_Text.mono _ _
  ·intro y0 y1 y2
   unfold cambistref01_Parse.j1
   repeat' first
   | (with_reducible exact ih0 _ _ _)
   | (with_reducible exact ih1 _ _ _)
   | (with_reducible exact ih2 _ _ _ _)
   | (with_reducible exact ih3 _ _ _ _ _)
   | (with_reducible exact ih4 _ _ _ _)
   | (with_reducible exact cambistref01_Text.mono _ _)
   | (with_reducible first | exact LeO.refl _ | exact LeO.none _ | refine LeO.ite ?_ ?_ | refine LeO.bind ?_ fun _ => ?_)
   | exact ih0 _ _ _
   | exact ih1 _ _ _
   | exact ih2 _ _ _ _
   | exact ih3 _ _ _ _ _
   | exact ih4 _ _ _ _
   | exact cambistref01_Text.mono _ _
  ·intro y0 y1 y2 y3
   unfold cambistref01_Parse.j2
   repeat' first
   | (with_reducible exact ih0 _ _ _)
   | (with_reducible exact ih1 _ _ _)
   | (with_reducible exact ih2 _ _ _ _)
   | (with_reducible exact ih3 _ _ _ _ _)
   | (with_reducible exact ih4 _ _ _ _)
   | (with_reducible exact cambistref01_Text.mono _ _)
   | (with_reducible first | exact LeO.refl _ | exact LeO.none _ | refine LeO.ite ?_ ?_ | refine LeO.bind ?_ fun _ => ?_)
   | exact ih0 _ _ _
   | exact ih1 _ _ _
   | exact ih2 _ _ _ _
   | exact ih3 _ _ _ _ _
   | exact ih4 _ _ _ _
   | exact cambistref01_Text.mono _ _
  ·intro y0 y1 y2 y3 y4
   unfold cambistref01_Parse.l0
   repeat' first
   | (with_reducible exact ih0 _ _ _)
   | (with_reducible exact ih1 _ _ _)
   | (with_reducible exact ih2 _ _ _ _)
   | (with_reducible exact ih3 _ _ _ _ _)
   | (with_reducible exact ih4 _ _ _ _)
   | (with_reducible exact cambistref01_Text.mono _ _)
   | (with_reducible first | exact LeO.refl _ | exact LeO.none _ | refine LeO.ite ?_ ?_ | refine LeO.bind ?_ fun _ => ?_)
   | exact ih0 _ _ _
   | exact ih1 _ _ _
   | exact ih2 _ _ _ _
   | exact ih3 _ _ _ _ _
   | exact ih4 _ _ _ _
   | exact cambistref01_Text.mono _ _
  ·intro y0 y1 y2 y3
   unfold cambistref01_Parse.j4
   repeat' first
   | (with_reducible exact ih0 _ _ _)
   | (with_reducible exact ih1 _ _ _)
   | (with_reducible exact ih2 _ _ _ _)
   | (with_reducible exact ih3 _ _ _ _ _)
   | (with_reducible exact ih4 _ _ _ _)
   | (with_reducible exact cambistref01_Text.mono _ _)
   | (with_reducible first | exact LeO.refl _ | exact LeO.none _ | refine LeO.ite ?_ ?_ | refine LeO.bind ?_ fun _ => ?_)
   | exact ih0 _ _ _
   | exact ih1 _ _ _
   | exact ih2 _ _ _ _
   | exact ih3 _ _ _ _ _
   | exact ih4 _ _ _ _
   | exact cambistref01_Text.mono _ _
theorem cambistref01_Parse.mono : ∀ a0 k, LeO (cambistref01_Parse.f k a0) (cambistref01_Parse.f (k + 1) a0) := by
 intro a0 k
 obtain ⟨ih0, ih1, ih2, ih3, ih4⟩ := cambistref01_Parse.mono_l k
 unfold cambistref01_Parse.f
 repeat' first
   | (with_reducible exact ih0 _ _ _)
   | (with_reducible exact ih1 _ _ _)
   | (with_reducible exact ih2 _ _ _ _)
   | (with_reducible exact ih3 _ _ _ _ _)
   | (with_reducible exact ih4 _ _ _ _)
   | (with_reducible exact cambistref01_Text.mono _ _)
   | (with_reducible first | exact LeO.refl _ | exact LeO.none _ | refine LeO.ite ?_ ?_ | refine LeO.bind ?_ fun _ => ?_)
   | exact ih0 _ _ _
   | exact ih1 _ _ _
   | exact ih2 _ _ _ _
   | exact ih3 _ _ _ _ _
   | exact ih4 _ _ _ _
   | exact cambistref01_Text.mono _ _
set_option maxHeartbeats 8000000 in
set_option maxRecDepth 100000 in
theorem cambistref01_Parse.calls (k : Nat) (a0 : ByteArray) (r1 : Int) (r2 : Int) (w : World) (hG : Glob w) (h : cambistref01_Parse.f k a0 = some (r1, r2)) :
  Calls Tryz.prog 33 #[.string a0] w fun e w' => e = .returned (.tuple #[.int .i64 r1, .int .i64 r2]) ∧ Below w.heap.size w w' := by
 have HG := a_ hG
 clear hG
 have HB := a_ (Below.refl w.heap.size w)
 have H : (if (a0.size : Int) > 0 then (if 0 < (a0.size : Int) then (cambistref01_Parse.j0 k a0 a0 ((bt a0 0) == 45)) else (none)) else (cambistref01_Parse.j0 k a0 a0 false)) = some (r1, r2) := h
 clear h
 have HC2 := a_ H
 clear H
 go_enter Tryz.func33, Tryz.ntmps33
 go_upto_region 2 with (fail)
 go_cut [5] (fun v5 wc => ∃ (kq : Nat) (x5_1 : Bool), v5 = .bool x5_1 ∧ Aside0 (cambistref01_Parse.j0 kq a0 a0 x5_1 = some (r1, r2)) ∧ Aside0 (kq ≤ k) ∧ Aside0 (Below w.heap.size w wc))
 case first =>
  have H := HC2.out
  clear HC2
  by_cases c3 : (a0.size : Int) > 0
  ·rw [if_pos c3] at H
   have c3b0 : decide (0 < (a0.size : Int)) = true := decide_eq_true c3
   have c3b1 : decide (0 < a0.size) = true := decide_eq_true (by omega)
   clear c3
   (first | rw [c3b0] | (simp only [i64_w, i32_w]; rw [c3b0]) | skip)
   by_cases c4 : 0 < (a0.size : Int)
   ·rw [if_pos c4] at H
    have c4b0 : decide (0 < (a0.size : Int)) = true := decide_eq_true c4
    have c4b1 : decide (0 < a0.size) = true := decide_eq_true (by omega)
    clear c4
    have H' := a_ H
    clear H
    have p5 : 0 ≤ (0 : Int) := (by omega)
    have q5 : 0 < a0.size := (by have : (0 : Int) < (a0.size : Int) := of_decide_eq_true z70_; omega)
    have hx5 : ∀ h : 0 < a0.size, ((a0[0]'h).toNat : Int) = bt a0 0 := bt_at a0 0
    clear p5
    have qi5 : (0 < (a0.size : Int)) = True := eq_true (of_decide_eq_true z70_)
    replace q5 := eq_true q5
    go_wp2
    go_meet
    case rel => exact ⟨_, (((bt a0 0) == 45)), z71_, H', ⟨z72_⟩, ⟨z33_⟩⟩
   ·rw [if_neg c4] at H
    exact absurd H (by simp)
  ·rw [if_neg c3] at H
   have c3b0 : decide (0 < (a0.size : Int)) = false := decide_eq_false c3
   have c3b1 : decide (0 < a0.size) = false := decide_eq_false (by omega)
   clear c3
   (first | rw [c3b0] | (simp only [i64_w, i32_w]; rw [c3b0]) | skip)
   have H' := a_ H
   clear H
   go_wp2
   go_meet
   case rel => exact ⟨_, (false), z71_, H', ⟨z72_⟩, ⟨z33_⟩⟩
 case rest =>
  clear HC2
  try clear p2
  try clear c3
  try clear c3b0
  try clear c3b1
  try clear c4
  try clear c4b0
  try clear c4b1
  try clear p5
  try clear q5
  try clear hx5
  try clear qi5
  try clear p5
  try clear q5
  obtain ⟨kq, x5_1, rfl, HA, HJ1, HB⟩ := hcut
  cases kq with
  | zero => exact absurd HA.out (by simp [cambistref01_Parse.j0])
  | succ kj1 =>
   have H := HA.out
   clear HA
   simp only [cambistref01_Parse.j0] at H
   have HC6 := a_ H
   clear H
   go_upto_if 18 with (fail)
   go_cut [4] (fun v4 wc => ∃ (kq : Nat) (x4_5 : ByteArray), v4 = .string x4_5 ∧ Aside0 (cambistref01_Parse.j1 kq a0 x4_5 x5_1 = some (r1, r2)) ∧ Aside0 (kq ≤ kj1) ∧ Aside0 (Below w.heap.size w wc))
   case first =>
    have H := HC6.out
    clear HC6
    by_cases c7 : x5_1 = true
    ·subst c7
     have H1 : (if 1 ≤ (a0.size : Int) then (cambistref01_Parse.j1 kj1 a0 (a0.extract 1 a0.size) true) else (none)) = some (r1, r2) := by rw [if_pos rfl] at H; exact H
     clear H
     have H := H1
     clear H1
     by_cases c8 : 1 ≤ (a0.size : Int)
     ·rw [if_pos c8] at H
      have c8b0 := eq_true c8
      have c8b1 : decide (1 ≤ (a0.size : Int)) = true := decide_eq_true c8
      clear c8
      have H' := a_ H
      clear H
      go_wp2
      go_meet
      case rel => exact ⟨_, (a0.extract 1 a0.size), z71_, H', ⟨by have := HJ1.out; first | omega | exact Nat.le_refl _⟩, ⟨z33_⟩⟩
     ·rw [if_neg c8] at H
      exact absurd H (by simp)
    ·replace c7 := Bool.eq_false_iff.mpr c7
     subst c7
     have H1 : (cambistref01_Parse.j1 kj1 a0 a0 false) = some (r1, r2) := by rw [if_neg (show ¬ (false = true) by decide)] at H; exact H
     clear H
     have H := H1
     clear H1
     have H' := a_ H
     clear H
     go_wp2
     go_meet
     case rel => exact ⟨_, (a0), z71_, H', ⟨by have := HJ1.out; first | omega | exact Nat.le_refl _⟩, ⟨z33_⟩⟩
   case rest =>
    clear HC6
    try clear p2
    try clear c3
    try clear c3b0
    try clear c3b1
    try clear c4
    try clear c4b0
    try clear c4b1
    try clear p5
    try clear q5
    try clear hx5
    try clear qi5
    try clear c7
    try clear c8
    try clear c8b0
    try clear c8b1
    try clear p2
    try clear p5
    try clear q5
    obtain ⟨kq, x4_5, rfl, HA, HJ5, HB⟩ := hcut
    cases kq with
    | zero => exact absurd HA.out (by simp [cambistref01_Parse.j1])
    | succ kj5 =>
     have H := HA.out
     clear HA
     simp only [cambistref01_Parse.j1] at H
     have HC9 := a_ H
     clear H
     go_upto_region 5 with (fail)
     go_cut [28] (fun v28 wc => ∃ (kq : Nat) (x28_8 : Bool), v28 = .bool x28_8 ∧ Aside0 (cambistref01_Parse.j2 kq a0 x4_5 x5_1 x28_8 = some (r1, r2)) ∧ Aside0 (kq ≤ kj5) ∧ Aside0 (Below w.heap.size w wc))
     case first =>
      have H := HC9.out
      clear HC9
      by_cases c10 : (x4_5.size : Int) = 0
      ·rw [if_pos c10] at H
       have c10b0 : ((x4_5.size : Int) == 0) = true := beq_iff_eq.mpr c10
       have c10b1 : ((x4_5.size : Int) != 0) = false := bne_eq_false_iff_eq.mpr c10
       clear c10
       (first | rw [c10b0] | (simp only [i64_w, i32_w]; rw [c10b0]) | skip)
       have H' := a_ H
       clear H
       go_wp2
       go_meet
       case rel => exact ⟨_, (true), z71_, H', ⟨by have := HJ1.out; have := HJ5.out; first | omega | exact Nat.le_refl _⟩, ⟨z33_⟩⟩
      ·rw [if_neg c10] at H
       have c10b0 : ((x4_5.size : Int) == 0) = false := beq_eq_false_iff_ne.mpr c10
       have c10b1 : ((x4_5.size : Int) != 0) = true := bne_iff_ne.mpr c10
       (first | rw [c10b0] | (simp only [i64_w, i32_w]; rw [c10b0]) | skip)
       have H' := a_ H
       clear H
       go_wp2
       go_meet
       case rel => exact ⟨_, (decide ((x4_5.size : Int) > 19)), z71_, H', ⟨by have := HJ1.out; have := HJ5.out; first | omega | exact Nat.le_refl _⟩, ⟨z33_⟩⟩
     case rest =>
      clear HC9
      try clear c1
      try clear p2
      try clear c3
      try clear c3b0
      try clear c3b1
      try clear c4
      try clear c4b0
      try clear c4b1
      try clear p5
      try clear q5
      try clear hx5
      try clear qi5
      try clear c7
      try clear c8
      try clear c8b0
      try clear c8b1
      try clear c10
      try clear c10b0
      try clear c10b1
      try clear p2
      try clear p5
      try clear q5
      obtain ⟨kq, x28_8, rfl, HA, HJ8, HB⟩ := hcut
      cases kq with
      | zero => exact absurd HA.out (by simp [cambistref01_Parse.j2])
      | succ kj8 =>
       have H := HA.out
       clear HA
       simp only [cambistref01_Parse.j2] at H
       by_cases c11 : x28_8 = true
       ·subst c11
        have H1 : (some (0, 11)) = some (r1, r2) := by rw [if_pos rfl] at H; exact H
        clear H
        have H := H1
        clear H1
        simp only [Option.some.injEq, Prod.mk.injEq] at H
        obtain ⟨rfl, rfl⟩ := H
        go_wp2
        go_ret2
        exact ⟨z64_, z33_⟩
       ·replace c11 := Bool.eq_false_iff.mpr c11
        subst c11
        have H1 : (cambistref01_Parse.l0 kj8 a0 x4_5 x5_1 0 0) = some (r1, r2) := by rw [if_neg (show ¬ (false = true) by decide)] at H; exact H
        clear H
        have H := H1
        clear H1
        have H' := a_ H
        clear H
        go_wp2
        go_loopg [6, 7] kj8 (fun kq v6 v7 w' => ∃ (x6_4 : Int) (x7_4 : Int), v6 = .int .u64 x6_4 ∧ v7 = .int .i64 x7_4 ∧ Aside0 (cambistref01_Parse.l0 kq a0 x4_5 x5_1 x6_4 x7_4 = some (r1, r2)) ∧ Aside0 (kq ≤ kj8) ∧ Aside0 (Below w.heap.size w w'))
        case atStart => exact ⟨(0), (0), z71_, z71_, H', ⟨Nat.le_refl _⟩, ⟨z33_⟩⟩
        case round =>
         clear H'
         try clear c1
         try clear p2
         try clear c3
         try clear c3b0
         try clear c3b1
         try clear c4
         try clear c4b0
         try clear c4b1
         try clear p5
         try clear q5
         try clear hx5
         try clear qi5
         try clear c7
         try clear c8
         try clear c8b0
         try clear c8b1
         try clear c10
         try clear c10b0
         try clear c10b1
         try clear c11
         try clear p2
         try clear p5
         try clear q5
         obtain ⟨x6_4, x7_4, rfl, rfl, HA, HK4, HB⟩ := hrel
         cases gk with
         | zero => exact absurd HA.out (by simp [cambistref01_Parse.l0])
         | succ k4 =>
          have H := HA.out
          clear HA
          simp only [cambistref01_Parse.l0] at H
          by_cases c12 : x7_4 < (x4_5.size : Int)
          ·rw [if_pos c12] at H
           have c12b0 : decide (x7_4 < (x4_5.size : Int)) = true := decide_eq_true c12
           clear c12
           by_cases c13 : 0 ≤ x7_4
           ·rw [if_pos c13] at H
            have c13b0 : decide (0 ≤ x7_4) = true := decide_eq_true c13
            clear c13
            by_cases c15 : (bt x4_5 x7_4) < 48
            ·rw [if_pos c15] at H
             have c15b0 : decide ((bt x4_5 x7_4) < 48) = true := decide_eq_true c15
             clear c15
             simp only [Option.some.injEq, Prod.mk.injEq] at H
             obtain ⟨rfl, rfl⟩ := H
             have p14 : 0 ≤ (x7_4 : Int) := of_decide_eq_true z70_
             have q14 : x7_4 < (x4_5.size : Int) := of_decide_eq_true z70_
             have hx14 := bt_at x4_5 x7_4
             replace p14 := eq_true p14
             replace q14 := eq_true q14
             go_wp2
             go_ret2
             exact ⟨z64_, z33_⟩
            ·rw [if_neg c15] at H
             have c15b0 : decide ((bt x4_5 x7_4) < 48) = false := decide_eq_false c15
             clear c15
             by_cases c17 : (bt x4_5 x7_4) > 57
             ·rw [if_pos c17] at H
              have c17b0 : decide (57 < (bt x4_5 x7_4)) = true := decide_eq_true c17
              clear c17
              simp only [Option.some.injEq, Prod.mk.injEq] at H
              obtain ⟨rfl, rfl⟩ := H
              have p14 : 0 ≤ (x7_4 : Int) := of_decide_eq_true z70_
              have q14 : x7_4 < (x4_5.size : Int) := of_decide_eq_true z70_
              have hx14 := bt_at x4_5 x7_4
              replace p14 := eq_true p14
              replace q14 := eq_true q14
              have p16 : 0 ≤ (x7_4 : Int) := of_decide_eq_true z70_
              have q16 : x7_4 < (x4_5.size : Int) := of_decide_eq_true z70_
              have hx16 := bt_at x4_5 x7_4
              replace p16 := eq_true p16
              replace q16 := eq_true q16
              go_wp2
              go_ret2
              exact ⟨z64_, z33_⟩
             ·rw [if_neg c17] at H
              have c17b0 : decide (57 < (bt x4_5 x7_4)) = false := decide_eq_false c17
              clear c17
              have H' := a_ H
              clear H
              have p14 : 0 ≤ (x7_4 : Int) := of_decide_eq_true z70_
              have q14 : x7_4 < (x4_5.size : Int) := of_decide_eq_true z70_
              have hx14 := bt_at x4_5 x7_4
              replace p14 := eq_true p14
              replace q14 := eq_true q14
              have p16 : 0 ≤ (x7_4 : Int) := of_decide_eq_true z70_
              have q16 : x7_4 < (x4_5.size : Int) := of_decide_eq_true z70_
              have hx16 := bt_at x4_5 x7_4
              replace p16 := eq_true p16
              replace q16 := eq_true q16
              have p18 : 0 ≤ (x7_4 : Int) := of_decide_eq_true z70_
              have q18 : x7_4 < (x4_5.size : Int) := of_decide_eq_true z70_
              have hx18 := bt_at x4_5 x7_4
              replace p18 := eq_true p18
              replace q18 := eq_true q18
              go_wp2
              go_roundg k4
              case measure => have := HJ1.out; have := HJ5.out; have := HJ8.out; have := HK4.out; omega
              case rel => exact ⟨(IntKind.u64.wrap ((IntKind.u64.wrap (x6_4 * 10)) + (((bt x4_5 x7_4) - 48) % 256))), (wrap64 (x7_4 + 1)), z71_, z71_, H', ⟨by have := HJ1.out; have := HJ5.out; have := HJ8.out; have := HK4.out; omega⟩, ⟨z33_⟩⟩
           ·rw [if_neg c13] at H
            exact absurd H (by simp)
          ·rw [if_neg c12] at H
           have c12b0 : decide (x7_4 < (x4_5.size : Int)) = false := decide_eq_false c12
           clear c12
           have HC19 := a_ H
           clear H
           go_upto_region 14 with (fail)
           go_cut [65] (fun v65 wc => ∃ (kq : Nat) (x65_18 : Bool), v65 = .bool x65_18 ∧ Aside0 (cambistref01_Parse.j4 kq a0 x5_1 x6_4 x65_18 = some (r1, r2)) ∧ Aside0 (kq ≤ k4) ∧ Aside0 (Below w.heap.size w wc))
           case first =>
            have H := HC19.out
            clear HC19
            by_cases c20 : x5_1 = true
            ·subst c20
             have H1 : (cambistref01_Parse.j4 k4 a0 true x6_4 (decide (x6_4 > 9223372036854775808))) = some (r1, r2) := by rw [if_pos rfl] at H; exact H
             clear H
             have H := H1
             clear H1
             have H' := a_ H
             clear H
             go_wp2
             go_meet
             case rel => exact ⟨_, (decide (x6_4 > 9223372036854775808)), z71_, H', ⟨z44_⟩, ⟨z33_⟩⟩
            ·replace c20 := Bool.eq_false_iff.mpr c20
             subst c20
             have H1 : (if x6_4 > 9223372036854775807 then (cambistref01_Parse.j4 k4 a0 false x6_4 true) else (cambistref01_Parse.j4 k4 a0 false x6_4 false)) = some (r1, r2) := by rw [if_neg (show ¬ (false = true) by decide)] at H; exact H
             clear H
             have H := H1
             clear H1
             by_cases c21 : x6_4 > 9223372036854775807
             ·rw [if_pos c21] at H
              have c21b0 : decide (9223372036854775807 < x6_4) = true := decide_eq_true c21
              clear c21
              (first | rw [c21b0] | (simp only [i64_w, i32_w]; rw [c21b0]) | skip)
              have H' := a_ H
              clear H
              go_wp2
              go_meet
              case rel => exact ⟨_, (true), z71_, H', ⟨z44_⟩, ⟨z33_⟩⟩
             ·rw [if_neg c21] at H
              have c21b0 : decide (9223372036854775807 < x6_4) = false := decide_eq_false c21
              clear c21
              (first | rw [c21b0] | (simp only [i64_w, i32_w]; rw [c21b0]) | skip)
              have H' := a_ H
              clear H
              go_wp2
              go_meet
              case rel => exact ⟨_, (false), z71_, H', ⟨z44_⟩, ⟨z33_⟩⟩
           case rest =>
            clear HC19
            try clear c1
            try clear p1
            try clear q1
            try clear hx1
            try clear c2
            try clear p2
            try clear c3
            try clear c3b0
            try clear c3b1
            try clear c4
            try clear c4b0
            try clear c4b1
            try clear p5
            try clear q5
            try clear hx5
            try clear qi5
            try clear p6
            try clear c7
            try clear c8
            try clear c8b0
            try clear c8b1
            try clear c10
            try clear c10b0
            try clear c10b1
            try clear c11
            try clear c12
            try clear c12b0
            try clear c13
            try clear c13b0
            try clear p14
            try clear q14
            try clear hx14
            try clear c15
            try clear c15b0
            try clear p16
            try clear q16
            try clear hx16
            try clear c17
            try clear c17b0
            try clear p18
            try clear q18
            try clear hx18
            try clear c20
            try clear c21
            try clear c21b0
            try clear p14
            try clear p16
            try clear p18
            try clear p2
            try clear p5
            try clear q14
            try clear q16
            try clear q18
            try clear q5
            obtain ⟨kq, x65_18, rfl, HA, HJ18, HB⟩ := hcut
            cases kq with
            | zero => exact absurd HA.out (by simp [cambistref01_Parse.j4])
            | succ kj18 =>
             have H := HA.out
             clear HA
             simp only [cambistref01_Parse.j4] at H
             by_cases c22 : x65_18 = true
             ·subst c22
              have H1 : (some (0, 11)) = some (r1, r2) := by rw [if_pos rfl] at H; exact H
              clear H
              have H := H1
              clear H1
              simp only [Option.some.injEq, Prod.mk.injEq] at H
              obtain ⟨rfl, rfl⟩ := H
              go_wp2
              go_ret2
              exact ⟨z64_, z33_⟩
             ·replace c22 := Bool.eq_false_iff.mpr c22
              subst c22
              have H1 : (if x5_1 = true then ((cambistref01_Text.f kj18 (wrap64 (IntKind.u64.wrap (-x6_4)))).bind fun t227 => (if t227.toList = a0.toList then (some (wrap64 (IntKind.u64.wrap (-x6_4)), 0)) else (some (0, 11)))) else ((cambistref01_Text.f kj18 (wrap64 (x6_4))).bind fun t228 => (if t228.toList = a0.toList then (some (wrap64 (x6_4), 0)) else (some (0, 11))))) = some (r1, r2) := by rw [if_neg (show ¬ (false = true) by decide)] at H; exact H
              clear H
              have H := H1
              clear H1
              by_cases c23 : x5_1 = true
              ·subst c23
               have H1 : ((cambistref01_Text.f kj18 (wrap64 (IntKind.u64.wrap (-x6_4)))).bind fun t227 => (if t227.toList = a0.toList then (some (wrap64 (IntKind.u64.wrap (-x6_4)), 0)) else (some (0, 11)))) = some (r1, r2) := by rw [if_pos rfl] at H; exact H
               clear H
               have H := H1
               clear H1
               replace H := Option.bind_eq_some_iff.mp H
               obtain ⟨t227, A240, H⟩ := H
               replace H : (if t227.toList = a0.toList then (some (wrap64 (IntKind.u64.wrap (-x6_4)), 0)) else (some (0, 11))) = some (r1, r2) := H
               have A24 := a_ A240
               clear A240
               by_cases c25 : t227.toList = a0.toList
               ·rw [if_pos c25] at H
                have c25b0 : (t227.toList == a0.toList) = true := beq_iff_eq.mpr c25
                have c25b1 : (t227.toList != a0.toList) = false := bne_eq_false_iff_eq.mpr c25
                clear c25
                simp only [Option.some.injEq, Prod.mk.injEq] at H
                obtain ⟨rfl, rfl⟩ := H
                go_wp2_with (first | ((with_reducible refine gate_callee (f := 37) rfl ?_); refine goesL_ (some 73) rfl rfl Tryz.func37 z74_ rfl #[.int .i64 (wrap64 (IntKind.u64.wrap (-x6_4)))] rfl z19_ ?_; (with_reducible refine (cambistref01_Text.calls kj18 (wrap64 (IntKind.u64.wrap (-x6_4))) t227 _ ?side1 A24.out).mono ?_); (case side1 => exact Glob.below HG.out z33_); rintro e w26 ⟨rfl, hb⟩; refine ⟨_, rfl, ?_⟩; have n0_ := a_ (below_step z33_ hb); clear HB; have HB := n0_; clear n0_; (try clear hb); (try clear hb2); (try clear hk); (try clear hi)))
                go_ret2
                exact ⟨z64_, z33_⟩
               ·rw [if_neg c25] at H
                have c25b0 : (t227.toList == a0.toList) = false := beq_eq_false_iff_ne.mpr c25
                have c25b1 : (t227.toList != a0.toList) = true := bne_iff_ne.mpr c25
                simp only [Option.some.injEq, Prod.mk.injEq] at H
                obtain ⟨rfl, rfl⟩ := H
                go_wp2_with (first | ((with_reducible refine gate_callee (f := 37) rfl ?_); refine goesL_ (some 73) rfl rfl Tryz.func37 z74_ rfl #[.int .i64 (wrap64 (IntKind.u64.wrap (-x6_4)))] rfl z19_ ?_; (with_reducible refine (cambistref01_Text.calls kj18 (wrap64 (IntKind.u64.wrap (-x6_4))) t227 _ ?side1 A24.out).mono ?_); (case side1 => exact Glob.below HG.out z33_); rintro e w27 ⟨rfl, hb⟩; refine ⟨_, rfl, ?_⟩; have n0_ := a_ (below_step z33_ hb); clear HB; have HB := n0_; clear n0_; (try clear hb); (try clear hb2); (try clear hk); (try clear hi)))
                go_ret2
                exact ⟨z64_, z33_⟩
              ·replace c23 := Bool.eq_false_iff.mpr c23
               subst c23
               have H1 : ((cambistref01_Text.f kj18 (wrap64 (x6_4))).bind fun t228 => (if t228.toList = a0.toList then (some (wrap64 (x6_4), 0)) else (some (0, 11)))) = some (r1, r2) := by rw [if_neg (show ¬ (false = true) by decide)] at H; exact H
               clear H
               have H := H1
               clear H1
               replace H := Option.bind_eq_some_iff.mp H
               obtain ⟨t228, A280, H⟩ := H
               replace H : (if t228.toList = a0.toList then (some (wrap64 (x6_4), 0)) else (some (0, 11))) = some (r1, r2) := H
               have A28 := a_ A280
               clear A280
               by_cases c29 : t228.toList = a0.toList
               ·rw [if_pos c29] at H
                have c29b0 : (t228.toList == a0.toList) = true := beq_iff_eq.mpr c29
                have c29b1 : (t228.toList != a0.toList) = false := bne_eq_false_iff_eq.mpr c29
                clear c29
                simp only [Option.some.injEq, Prod.mk.injEq] at H
                obtain ⟨rfl, rfl⟩ := H
                go_wp2_with (first | ((with_reducible refine gate_callee (f := 37) rfl ?_); refine goesL_ (some 73) rfl rfl Tryz.func37 z74_ rfl #[.int .i64 (wrap64 (x6_4))] rfl z19_ ?_; (with_reducible refine (cambistref01_Text.calls kj18 (wrap64 (x6_4)) t228 _ ?side1 A28.out).mono ?_); (case side1 => exact Glob.below HG.out z33_); rintro e w30 ⟨rfl, hb⟩; refine ⟨_, rfl, ?_⟩; have n0_ := a_ (below_step z33_ hb); clear HB; have HB := n0_; clear n0_; (try clear hb); (try clear hb2); (try clear hk); (try clear hi)))
                go_ret2
                exact ⟨z64_, z33_⟩
               ·rw [if_neg c29] at H
                have c29b0 : (t228.toList == a0.toList) = false := beq_eq_false_iff_ne.mpr c29
                have c29b1 : (t228.toList != a0.toList) = true := bne_iff_ne.mpr c29
                simp only [Option.some.injEq, Prod.mk.injEq] at H
                obtain ⟨rfl, rfl⟩ := H
                go_wp2_with (first | ((with_reducible refine gate_callee (f := 37) rfl ?_); refine goesL_ (some 73) rfl rfl Tryz.func37 z74_ rfl #[.int .i64 (wrap64 (x6_4))] rfl z19_ ?_; (with_reducible refine (cambistref01_Text.calls kj18 (wrap64 (x6_4)) t228 _ ?side1 A28.out).mono ?_); (case side1 => exact Glob.below HG.out z33_); rintro e w31 ⟨rfl, hb⟩; refine ⟨_, rfl, ?_⟩; have n0_ := a_ (below_step z33_ hb); clear HB; have HB := n0_; clear n0_; (try clear hb); (try clear hb2); (try clear hk); (try clear hi)))
                go_ret2
                exact ⟨z64_, z33_⟩

end Go.Proofs.YtjlifcbddednaaaGreatDoor.P
