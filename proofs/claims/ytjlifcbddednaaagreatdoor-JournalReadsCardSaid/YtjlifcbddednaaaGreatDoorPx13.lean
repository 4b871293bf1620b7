-- Laid by wip/tools/cprint.py of this claim's own repo (over the kit's print).
import Derived.Test.YtjlifcbddednaaaGreatDoorSq
import Derived.Test.YtjlifcbddednaaaGreatDoorPx0
import Derived.Test.YtjlifcbddednaaaGreatDoorPx1
import Derived.Test.YtjlifcbddednaaaGreatDoorPx7
import Derived.Test.YtjlifcbddednaaaGreatDoorPx12
namespace Go.Proofs.YtjlifcbddednaaaGreatDoor.P
open Go.RowKit Go.Proofs.YtjlifcbddednaaaGreatDoor.E Go.Proofs.YtjlifcbddednaaaGreatDoorW.PrintWords Go.Proofs.YtjlifcbddednaaaGreatDoorW.PrintLast
set_option linter.unusedVariables false
set_option linter.unusedSimpArgs false

attribute [local go_sem high] eqA26
/-! ### cambistref12_Pairs: function 15 -/
def cambistref12_Pairs.l0 : Nat → ByteArray → List (S26) → Int → Int → Int → ByteArray → List (S36) → Option ((List (S26)) × Int)
 | 0, _, _, _, _, _, _, _ => none
 | k + 1, x4, x7, x8, x310000, x310001, x310002, x310003 => if x8 < (x310003.length : Int) then (if 0 ≤ x8 then ((cambistref02_Digits.f k (IntKind.u64.wrap (x8))).bind fun t324 => (if 12 ≤ (t324.size : Int) then (if 1 + (t324.extract 12 t324.size).size ≤ 9223372036854775807 then ((cambistref02_Key.f k 101 (([x4, (⟨#[49]⟩ : ByteArray) ++ (t324.extract 12 t324.size)] : List ByteArray))).bind fun bt328 => (if ((rd_T36 x310003 x8).f0).size + 1 ≤ 9223372036854775807 then (if (((rd_T36 x310003 x8).f0) ++ (⟨#[124]⟩ : ByteArray)).size + ((rd_T36 x310003 x8).f1).size ≤ 9223372036854775807 then (if ((((rd_T36 x310003 x8).f0) ++ (⟨#[124]⟩ : ByteArray)) ++ ((rd_T36 x310003 x8).f1)).size + 1 ≤ 9223372036854775807 then ((cambistref01_Text.f k ((rd_T36 x310003 x8).f2)).bind fun t330 => (if (((((rd_T36 x310003 x8).f0) ++ (⟨#[124]⟩ : ByteArray)) ++ ((rd_T36 x310003 x8).f1)) ++ (⟨#[124]⟩ : ByteArray)).size + t330.size ≤ 9223372036854775807 then (if x7.length < 4398046511104 then (cambistref12_Pairs.l0 k x4 (x7 ++ [(⟨bt328.1, (((((rd_T36 x310003 x8).f0) ++ (⟨#[124]⟩ : ByteArray)) ++ ((rd_T36 x310003 x8).f1)) ++ (⟨#[124]⟩ : ByteArray)) ++ t330⟩ : S26)]) (wrap64 (x8 + 1)) x310000 x310001 x310002 x310003) else (none)) else (none))) else (none)) else (none)) else (none))) else (none)) else (none))) else (none)) else (some (x7, 0))
def cambistref12_Pairs.f (k : Nat) (a0_0 : Int) (a0_1 : Int) (a0_2 : ByteArray) (l0_3 : List (S36)) : Option ((List (S26)) × Int) := (cambistref12_Check.f k a0_0 a0_1 a0_2 l0_3).bind fun t310 => (if t310 = 0 then ((cambistref02_Digits.f k a0_0).bind fun t311 => ((cambistref02_Key.f k 101 (([t311, (⟨#[48]⟩ : ByteArray)] : List ByteArray))).bind fun bt315 => ((cambistref02_Digits.f k a0_1).bind fun t317 => (if t317.size + 1 ≤ 9223372036854775807 then (if (t317 ++ (⟨#[124]⟩ : ByteArray)).size + a0_2.size ≤ 9223372036854775807 then (if ((t317 ++ (⟨#[124]⟩ : ByteArray)) ++ a0_2).size + 1 ≤ 9223372036854775807 then ((cambistref01_Text.f k (l0_3.length : Int)).bind fun t318 => (if (((t317 ++ (⟨#[124]⟩ : ByteArray)) ++ a0_2) ++ (⟨#[124]⟩ : ByteArray)).size + t318.size ≤ 9223372036854775807 then (cambistref12_Pairs.l0 k t311 (([(⟨bt315.1, (((t317 ++ (⟨#[124]⟩ : ByteArray)) ++ a0_2) ++ (⟨#[124]⟩ : ByteArray)) ++ t318⟩ : S26)] : List (S26))) 0 a0_0 a0_1 a0_2 l0_3) else (none))) else (none)) else (none)) else (none))))) else (some (([] : List (S26)), 120)))
theorem cambistref12_Pairs.mono_l : ∀ k, (∀ y0 y1 y2 y3 y4 y5 y6, LeO (cambistref12_Pairs.l0 k y0 y1 y2 y3 y4 y5 y6) (cambistref12_Pairs.l0 (k + 1) y0 y1 y2 y3 y4 y5 y6))
 | 0 => fun _ _ _ _ _ _ _ r h => by simp [cambistref12_Pairs.l0] at h
 | k + 1 => by
  have ih0 := cambistref12_Pairs.mono_l k
  ·intro y0 y1 y2 y3 y4 y5 y6
   unfold cambistref12_Pairs.l0
   repeat' first
   | (with_reducible exact ih0 _ _ _ _ _ _ _)
   | (with_reducible exact cambistref01_Text.mono _ _)
   | (with_reducible exact cambistref02_Digits.mono _ _)
   | (with_reducible exact cambistref02_Key.mono _ _ _)
   | (with_reducible exact cambistref12_Check.mono _ _ _ _ _)
   | (with_reducible first | exact LeO.refl _ | exact LeO.none _ | refine LeO.ite ?_ ?_ | refine LeO.bind ?_ fun _ => ?_)
   | exact ih0 _ _ _ _ _ _ _
   | exact cambistref01_Text.mono _ _
   | exact cambistref02_Digits.mono _ _
   | exact cambistref02_Key.mono _ _ _
   | exact cambistref12_Check.mono _ _ _ _ _
theorem cambistref12_Pairs.mono : ∀ a0 a1 a2 a3 k, LeO (cambistref12_Pairs.f k a0 a1 a2 a3) (cambistref12_Pairs.f (k + 1) a0 a1 a2 a3) := by
 intro a0 a1 a2 a3 k
 have ih0 := cambistref12_Pairs.mono_l k
 unfold cambistref12_Pairs.f
 repeat' first
   | (with_reducible exact ih0 _ _ _ _ _ _ _)
   | (with_reducible exact cambistref01_Text.mono _ _)
   | (with_reducible exact cambistref02_Digits.mono _ _)
   | (with_reducible exact cambistref02_Key.mono _ _ _)
   | (with_reducible exact cambistref12_Check.mono _ _ _ _ _)
   | (with_reducible first | exact LeO.refl _ | exact LeO.none _ | refine LeO.ite ?_ ?_ | refine LeO.bind ?_ fun _ => ?_)
   | exact ih0 _ _ _ _ _ _ _
   | exact cambistref01_Text.mono _ _
   | exact cambistref02_Digits.mono _ _
   | exact cambistref02_Key.mono _ _ _
   | exact cambistref12_Check.mono _ _ _ _ _
def cambistref12_Pairs.T5 : Bool × List (List Nat × List Nat) := (true, [([], []), ([], []), ([1], [1]), ([2], [2]), ([3], [3]), ([], []), ([5], [5]), ([4, 6], [4, 6]), ([7], [7]), ([], []), ([9], [9]), ([10], [10]), ([11, 3], [11]), ([8, 12], [8, 12]), ([0, 13], [0, 13]), ([14], [14]), ([15, 12, 0, 1, 2, 3, 4, 5, 6, 7, 8, 9, 10, 11, 12, 13, 14, 15], [15])])
def cambistref12_Pairs.B5 : List Nat := [0, 0, 2, 6, 14, 0, 32, 126, 254, 0, 512, 1536, 3598, 8190, 16383, 32767, 65535]
theorem cambistref12_Pairs.tab5 : rtab .any (opsOf Tryz.f15 5) = cambistref12_Pairs.T5 := by kernel_rfl
theorem cambistref12_Pairs.bits5 : waitsOk cambistref12_Pairs.T5.2 cambistref12_Pairs.B5 = true := by kernel_rfl
def cambistref12_Pairs.T12 : Bool × List (List Nat × List Nat) := (true, [([], []), ([], []), ([], []), ([2], [2]), ([3], [3]), ([], []), ([5], [5]), ([4, 6], [4, 6]), ([7], [7]), ([], []), ([9], [9]), ([10], [10]), ([8, 11], [8, 11]), ([1, 12], [1, 12]), ([13], [13]), ([0, 14, 11], [0, 14]), ([15, 15, 0, 1, 2, 3, 4, 5, 6, 7, 8, 9, 10, 11, 12, 13, 14, 15], [0, 15])])
def cambistref12_Pairs.B12 : List Nat := [0, 0, 0, 4, 12, 0, 32, 124, 252, 0, 512, 1536, 4092, 8190, 16382, 32767, 65535]
theorem cambistref12_Pairs.tab12 : rtab .any (opsOf Tryz.f15 12) = cambistref12_Pairs.T12 := by kernel_rfl
theorem cambistref12_Pairs.bits12 : waitsOk cambistref12_Pairs.T12.2 cambistref12_Pairs.B12 = true := by kernel_rfl
set_option maxHeartbeats 8000000 in
set_option maxRecDepth 100000 in
theorem cambistref12_Pairs.calls (k : Nat) (a0_0 : Int) (a0_1 : Int) (a0_2 : ByteArray) (A0_3 : Option Addr) (c0_3 : Nat) (l0_3 : List (S36)) (r1 : List (S26)) (r2 : Int) (w : World) (hG : Glob w) (hr0_3 : Kd.C k36 w A0_3 l0_3.length l0_3) (hc0_3 : l0_3.length ≤ c0_3) (h : cambistref12_Pairs.f k a0_0 a0_1 a0_2 l0_3 = some (r1, r2)) :
  Calls Tryz.prog 15 #[.agg #[.int .u64 a0_0, .int .u64 a0_1, .string a0_2, .slice A0_3 l0_3.length c0_3]] w fun e w' => ∃ v0_ : Value, e = .returned (.tuple #[v0_, .int .i64 r2]) ∧ Kd.R k26 26 w' w.heap.size (fun _ => True) v0_ r1 ∧ Below w.heap.size w w' := by
 have hu39 := Tryz.underlying39
 have hu26 := Tryz.underlying26
 have hu36 := Tryz.underlying36
 have HG := a_ hG
 clear hG
 have HR0_3 := a_ hr0_3
 have HC0_3 := a_ hc0_3
 clear hr0_3 hc0_3
 have HB := a_ (Below.refl w.heap.size w)
 have H : ((cambistref12_Check.f k a0_0 a0_1 a0_2 l0_3).bind fun t310 => (if t310 = 0 then ((cambistref02_Digits.f k a0_0).bind fun t311 => ((cambistref02_Key.f k 101 (([t311, (⟨#[48]⟩ : ByteArray)] : List ByteArray))).bind fun bt315 => ((cambistref02_Digits.f k a0_1).bind fun t317 => (if t317.size + 1 ≤ 9223372036854775807 then (if (t317 ++ (⟨#[124]⟩ : ByteArray)).size + a0_2.size ≤ 9223372036854775807 then (if ((t317 ++ (⟨#[124]⟩ : ByteArray)) ++ a0_2).size + 1 ≤ 9223372036854775807 then ((cambistref01_Text.f k (l0_3.length : Int)).bind fun t318 => (if (((t317 ++ (⟨#[124]⟩ : ByteArray)) ++ a0_2) ++ (⟨#[124]⟩ : ByteArray)).size + t318.size ≤ 9223372036854775807 then (cambistref12_Pairs.l0 k t311 (([(⟨bt315.1, (((t317 ++ (⟨#[124]⟩ : ByteArray)) ++ a0_2) ++ (⟨#[124]⟩ : ByteArray)) ++ t318⟩ : S26)] : List (S26))) 0 a0_0 a0_1 a0_2 l0_3) else (none))) else (none)) else (none)) else (none))))) else (some (([] : List (S26)), 120)))) = some (r1, r2) := h
 clear h
 replace H := Option.bind_eq_some_iff.mp H
 obtain ⟨t310, A20, H⟩ := H
 replace H : (if t310 = 0 then ((cambistref02_Digits.f k a0_0).bind fun t311 => ((cambistref02_Key.f k 101 (([t311, (⟨#[48]⟩ : ByteArray)] : List ByteArray))).bind fun bt315 => ((cambistref02_Digits.f k a0_1).bind fun t317 => (if t317.size + 1 ≤ 9223372036854775807 then (if (t317 ++ (⟨#[124]⟩ : ByteArray)).size + a0_2.size ≤ 9223372036854775807 then (if ((t317 ++ (⟨#[124]⟩ : ByteArray)) ++ a0_2).size + 1 ≤ 9223372036854775807 then ((cambistref01_Text.f k (l0_3.length : Int)).bind fun t318 => (if (((t317 ++ (⟨#[124]⟩ : ByteArray)) ++ a0_2) ++ (⟨#[124]⟩ : ByteArray)).size + t318.size ≤ 9223372036854775807 then (cambistref12_Pairs.l0 k t311 (([(⟨bt315.1, (((t317 ++ (⟨#[124]⟩ : ByteArray)) ++ a0_2) ++ (⟨#[124]⟩ : ByteArray)) ++ t318⟩ : S26)] : List (S26))) 0 a0_0 a0_1 a0_2 l0_3) else (none))) else (none)) else (none)) else (none))))) else (some (([] : List (S26)), 120))) = some (r1, r2) := H
 have A2 := a_ A20
 clear A20
 by_cases c3 : t310 = 0
 ·rw [if_pos c3] at H
  have c3b0 : (t310 == 0) = true := beq_iff_eq.mpr c3
  have c3b1 : (t310 != 0) = false := bne_eq_false_iff_eq.mpr c3
  clear c3
  replace H := Option.bind_eq_some_iff.mp H
  obtain ⟨t311, A40, H⟩ := H
  replace H : ((cambistref02_Key.f k 101 (([t311, (⟨#[48]⟩ : ByteArray)] : List ByteArray))).bind fun bt315 => ((cambistref02_Digits.f k a0_1).bind fun t317 => (if t317.size + 1 ≤ 9223372036854775807 then (if (t317 ++ (⟨#[124]⟩ : ByteArray)).size + a0_2.size ≤ 9223372036854775807 then (if ((t317 ++ (⟨#[124]⟩ : ByteArray)) ++ a0_2).size + 1 ≤ 9223372036854775807 then ((cambistref01_Text.f k (l0_3.length : Int)).bind fun t318 => (if (((t317 ++ (⟨#[124]⟩ : ByteArray)) ++ a0_2) ++ (⟨#[124]⟩ : ByteArray)).size + t318.size ≤ 9223372036854775807 then (cambistref12_Pairs.l0 k t311 (([(⟨bt315.1, (((t317 ++ (⟨#[124]⟩ : ByteArray)) ++ a0_2) ++ (⟨#[124]⟩ : ByteArray)) ++ t318⟩ : S26)] : List (S26))) 0 a0_0 a0_1 a0_2 l0_3) else (none))) else (none)) else (none)) else (none)))) = some (r1, r2) := H
  have A4 := a_ A40
  clear A40
  obtain ⟨y312, hy312⟩ : ∃ y_ : List ByteArray, y_ = (([t311, (⟨#[48]⟩ : ByteArray)] : List ByteArray)) := ⟨_, rfl⟩
  replace H : ((cambistref02_Key.f k 101 y312).bind fun bt315 => ((cambistref02_Digits.f k a0_1).bind fun t317 => (if t317.size + 1 ≤ 9223372036854775807 then (if (t317 ++ (⟨#[124]⟩ : ByteArray)).size + a0_2.size ≤ 9223372036854775807 then (if ((t317 ++ (⟨#[124]⟩ : ByteArray)) ++ a0_2).size + 1 ≤ 9223372036854775807 then ((cambistref01_Text.f k (l0_3.length : Int)).bind fun t318 => (if (((t317 ++ (⟨#[124]⟩ : ByteArray)) ++ a0_2) ++ (⟨#[124]⟩ : ByteArray)).size + t318.size ≤ 9223372036854775807 then (cambistref12_Pairs.l0 k t311 (([(⟨bt315.1, (((t317 ++ (⟨#[124]⟩ : ByteArray)) ++ a0_2) ++ (⟨#[124]⟩ : ByteArray)) ++ t318⟩ : S26)] : List (S26))) 0 a0_0 a0_1 a0_2 l0_3) else (none))) else (none)) else (none)) else (none)))) = some (r1, r2) := by first | (rw [hy312]; with_reducible exact H) | (have H2_ := (Option.bind_some _ _).symm.trans H; rw [hy312]; with_reducible exact H2_) | (have H2_ := (Option.bind_some _ _).symm.trans H; with_reducible exact H2_) | with_reducible exact H | (rw [hy312]; exact H) | exact H
  have Ny312 := a_ hy312
  clear hy312
  replace H := Option.bind_eq_some_iff.mp H
  obtain ⟨⟨t315, t316⟩, A50, H⟩ := H
  replace H : ((cambistref02_Digits.f k a0_1).bind fun t317 => (if t317.size + 1 ≤ 9223372036854775807 then (if (t317 ++ (⟨#[124]⟩ : ByteArray)).size + a0_2.size ≤ 9223372036854775807 then (if ((t317 ++ (⟨#[124]⟩ : ByteArray)) ++ a0_2).size + 1 ≤ 9223372036854775807 then ((cambistref01_Text.f k (l0_3.length : Int)).bind fun t318 => (if (((t317 ++ (⟨#[124]⟩ : ByteArray)) ++ a0_2) ++ (⟨#[124]⟩ : ByteArray)).size + t318.size ≤ 9223372036854775807 then (cambistref12_Pairs.l0 k t311 (([(⟨t315, (((t317 ++ (⟨#[124]⟩ : ByteArray)) ++ a0_2) ++ (⟨#[124]⟩ : ByteArray)) ++ t318⟩ : S26)] : List (S26))) 0 a0_0 a0_1 a0_2 l0_3) else (none))) else (none)) else (none)) else (none))) = some (r1, r2) := H
  have A5 := a_ A50
  clear A50
  replace H := Option.bind_eq_some_iff.mp H
  obtain ⟨t317, A60, H⟩ := H
  replace H : (if t317.size + 1 ≤ 9223372036854775807 then (if (t317 ++ (⟨#[124]⟩ : ByteArray)).size + a0_2.size ≤ 9223372036854775807 then (if ((t317 ++ (⟨#[124]⟩ : ByteArray)) ++ a0_2).size + 1 ≤ 9223372036854775807 then ((cambistref01_Text.f k (l0_3.length : Int)).bind fun t318 => (if (((t317 ++ (⟨#[124]⟩ : ByteArray)) ++ a0_2) ++ (⟨#[124]⟩ : ByteArray)).size + t318.size ≤ 9223372036854775807 then (cambistref12_Pairs.l0 k t311 (([(⟨t315, (((t317 ++ (⟨#[124]⟩ : ByteArray)) ++ a0_2) ++ (⟨#[124]⟩ : ByteArray)) ++ t318⟩ : S26)] : List (S26))) 0 a0_0 a0_1 a0_2 l0_3) else (none))) else (none)) else (none)) else (none)) = some (r1, r2) := H
  have A6 := a_ A60
  clear A60
  by_cases c7 : t317.size + 1 ≤ 9223372036854775807
  ·rw [if_pos c7] at H
   have c7b0 := eq_true c7
   have c7b1 : decide (t317.size + 1 ≤ 9223372036854775807) = true := decide_eq_true c7
   try have c7b2 : (9223372036854775807 < t317.size + 1) = False := eq_false (Nat.not_lt.2 c7)
   by_cases c8 : (t317 ++ (⟨#[124]⟩ : ByteArray)).size + a0_2.size ≤ 9223372036854775807
   ·rw [if_pos c8] at H
    have c8b0 := eq_true c8
    have c8b1 : decide ((t317 ++ (⟨#[124]⟩ : ByteArray)).size + a0_2.size ≤ 9223372036854775807) = true := decide_eq_true c8
    try have c8b2 : (9223372036854775807 < (t317 ++ (⟨#[124]⟩ : ByteArray)).size + a0_2.size) = False := eq_false (Nat.not_lt.2 c8)
    try have c8b3 : (9223372036854775807 < t317.size + 1 + a0_2.size) = False := by have h_ := c8b2; simp only [ByteArray.size_append] at h_; exact h_
    by_cases c9 : ((t317 ++ (⟨#[124]⟩ : ByteArray)) ++ a0_2).size + 1 ≤ 9223372036854775807
    ·rw [if_pos c9] at H
     have c9b0 := eq_true c9
     have c9b1 : decide (((t317 ++ (⟨#[124]⟩ : ByteArray)) ++ a0_2).size + 1 ≤ 9223372036854775807) = true := decide_eq_true c9
     try have c9b2 : (9223372036854775807 < ((t317 ++ (⟨#[124]⟩ : ByteArray)) ++ a0_2).size + 1) = False := eq_false (Nat.not_lt.2 c9)
     try have c9b3 : (9223372036854775807 < t317.size + 1 + a0_2.size + 1) = False := by have h_ := c9b2; simp only [ByteArray.size_append] at h_; exact h_
     try have c9b4 : (9223372036854775807 < t317.size + a0_2.size + 2) = False := by have h_ := c9b3; simp only [Nat.add_assoc, Nat.reduceAdd] at h_ ⊢; exact h_
     replace H := Option.bind_eq_some_iff.mp H
     obtain ⟨t318, A100, H⟩ := H
     replace H : (if (((t317 ++ (⟨#[124]⟩ : ByteArray)) ++ a0_2) ++ (⟨#[124]⟩ : ByteArray)).size + t318.size ≤ 9223372036854775807 then (cambistref12_Pairs.l0 k t311 (([(⟨t315, (((t317 ++ (⟨#[124]⟩ : ByteArray)) ++ a0_2) ++ (⟨#[124]⟩ : ByteArray)) ++ t318⟩ : S26)] : List (S26))) 0 a0_0 a0_1 a0_2 l0_3) else (none)) = some (r1, r2) := H
     have A10 := a_ A100
     clear A100
     by_cases c11 : (((t317 ++ (⟨#[124]⟩ : ByteArray)) ++ a0_2) ++ (⟨#[124]⟩ : ByteArray)).size + t318.size ≤ 9223372036854775807
     ·rw [if_pos c11] at H
      have c11b0 := eq_true c11
      have c11b1 : decide ((((t317 ++ (⟨#[124]⟩ : ByteArray)) ++ a0_2) ++ (⟨#[124]⟩ : ByteArray)).size + t318.size ≤ 9223372036854775807) = true := decide_eq_true c11
      try have c11b2 : (9223372036854775807 < (((t317 ++ (⟨#[124]⟩ : ByteArray)) ++ a0_2) ++ (⟨#[124]⟩ : ByteArray)).size + t318.size) = False := eq_false (Nat.not_lt.2 c11)
      try have c11b3 : (9223372036854775807 < t317.size + 1 + a0_2.size + 1 + t318.size) = False := by have h_ := c11b2; simp only [ByteArray.size_append] at h_; exact h_
      try have c11b4 : (9223372036854775807 < t317.size + a0_2.size + t318.size + 2) = False := by have h_ := c11b3; simp only [Nat.add_assoc, Nat.reduceAdd] at h_ ⊢; exact h_
      obtain ⟨y319, hy319⟩ : ∃ y_ : List (S26), y_ = (([(⟨t315, (((t317 ++ (⟨#[124]⟩ : ByteArray)) ++ a0_2) ++ (⟨#[124]⟩ : ByteArray)) ++ t318⟩ : S26)] : List (S26))) := ⟨_, rfl⟩
      replace H : (cambistref12_Pairs.l0 k t311 y319 0 a0_0 a0_1 a0_2 l0_3) = some (r1, r2) := by first | (rw [hy319]; with_reducible exact H) | (have H2_ := (Option.bind_some _ _).symm.trans H; rw [hy319]; with_reducible exact H2_) | (have H2_ := (Option.bind_some _ _).symm.trans H; with_reducible exact H2_) | with_reducible exact H | (rw [hy319]; exact H) | exact H
      have Ny319 := a_ hy319
      clear hy319
      have H' := a_ H
      clear H
      go_enter Tryz.func15, Tryz.ntmps15
      try go_wp2_with (first | ((with_reducible refine gate_dst (N := 1) rfl ?_); refine box_event ?hg (N := 1) ?hd (cs := #[.int .u64 a0_0, .int .u64 a0_1, .string a0_2, .slice A0_3 l0_3.length c0_3]) (t := 39) ?hr ?_; (case hd => rfl); (case hg => rfl); (case hr => first | (go_simp; done) | (go_simp; rfl)); intro gb309 hg w12 hbox hb; have n0_ := a_ (below_step z33_ hb); have n1_ := a_ (hbox); have n2_ := a_ ((z20_ : w.heap.size ≤ gb309)); have n3_ := a_ ((z20_ : w.heap.size ≤ gb309)); clear HB; have HB := n0_; have BK309 := n1_; have GW309 := n2_; have GE309 := n3_; clear n0_ n1_ n2_ n3_; clear hb hbox hg; have hcz13_0 : w12.cell? ⟨gb309, 0, none⟩ = some (.int .u64 a0_0) := (blk_cell BK309.out 0).trans rfl; have hcz13_1 : w12.cell? ⟨gb309, 1, none⟩ = some (.int .u64 a0_1) := (blk_cell BK309.out 1).trans rfl; have hcz13_2 : w12.cell? ⟨gb309, 2, none⟩ = some (.string a0_2) := (blk_cell BK309.out 2).trans rfl; have hcz13_3 : w12.cell? ⟨gb309, 3, none⟩ = some (.slice A0_3 l0_3.length c0_3) := (blk_cell BK309.out 3).trans rfl; have hfz13_0 := blk_frozen BK309.out 0; have hfz13_1 := blk_frozen BK309.out 1; have hfz13_2 := blk_frozen BK309.out 2; have hfz13_3 := blk_frozen BK309.out 3) | ((with_reducible refine gate_callee (f := 34) rfl ?_); refine goesL_ (some 14) rfl rfl Tryz.func34 z74_ rfl #[.agg #[.int .u64 a0_0, .int .u64 a0_1, .string a0_2, .slice A0_3 l0_3.length c0_3]] rfl z19_ ?_; (with_reducible refine (cambistref12_Check.calls k a0_0 a0_1 a0_2 _ _ l0_3 t310 _ ?side1 ?side2 ?side3 A2.out).mono ?_); (case side1 => exact Glob.below HG.out z28_); (case side2 => repeat (first | exact (Kd.C_below HR0_3.out HB.out) | (with_reducible refine Kd.C_alloc ?_ _) | (with_reducible refine Kd.C_drewN ?_ _) | (with_reducible refine Kd.C_drew ?_))); (case side3 => exact HC0_3.out); rintro e w14 ⟨rfl, hb⟩; refine ⟨_, rfl, ?_⟩; have n0_ := a_ (blk_below (g := gb309) (o := .cells #[.int .u64 a0_0, .int .u64 a0_1, .string a0_2, .slice A0_3 l0_3.length c0_3] 39 (0, 0)) z60_ hb); have n1_ := a_ (below_step z28_ hb); clear BK309; clear HB; have BK309 := n0_; have HB := n1_; clear n0_ n1_; (try clear hb); (try clear hb2); (try clear hk); (try clear hi); have hcz15_0 : w14.cell? ⟨gb309, 0, none⟩ = some (.int .u64 a0_0) := (blk_cell BK309.out 0).trans rfl; have hcz15_1 : w14.cell? ⟨gb309, 1, none⟩ = some (.int .u64 a0_1) := (blk_cell BK309.out 1).trans rfl; have hcz15_2 : w14.cell? ⟨gb309, 2, none⟩ = some (.string a0_2) := (blk_cell BK309.out 2).trans rfl; have hcz15_3 : w14.cell? ⟨gb309, 3, none⟩ = some (.slice A0_3 l0_3.length c0_3) := (blk_cell BK309.out 3).trans rfl; have hfz15_0 := blk_frozen BK309.out 0; have hfz15_1 := blk_frozen BK309.out 1; have hfz15_2 := blk_frozen BK309.out 2; have hfz15_3 := blk_frozen BK309.out 3) | ((with_reducible refine gate_callee (f := 35) rfl ?_); refine goesL_ (some 18) rfl rfl Tryz.func35 z74_ rfl #[.int .u64 a0_0] rfl z19_ ?_; (with_reducible refine (cambistref02_Digits.calls k a0_0 t311 _ ?side1 A4.out).mono ?_); (case side1 => exact Glob.below HG.out z28_); rintro e w16 ⟨rfl, hb⟩; refine ⟨_, rfl, ?_⟩; have n0_ := a_ (blk_below (g := gb309) (o := .cells #[.int .u64 a0_0, .int .u64 a0_1, .string a0_2, .slice A0_3 l0_3.length c0_3] 39 (0, 0)) z60_ hb); have n1_ := a_ (below_step z28_ hb); clear BK309; clear HB; have BK309 := n0_; have HB := n1_; clear n0_ n1_; (try clear hb); (try clear hb2); (try clear hk); (try clear hi)) | ((with_reducible refine gate_dst (N := 21) rfl ?_); refine Kd.R_lit Kd.string _ 9 ?hg (N := 21) ?hd (xs := ([t311, (⟨#[48]⟩ : ByteArray)] : List ByteArray)) (inner := [.string t311, .string (⟨#[48]⟩ : ByteArray)]) (ok := fun _ => True) (okp := fun _ => True) ?hr ?hp (fun _ hk => hk) trivial (Below.refl _ _) (Nat.le_refl _) (by simp) ?_; (case hd => rfl); (case hg => rfl); (case hr => first | (go_simp; done) | (go_simp; rfl)); (case hp => exact (Reps.one (show Kd.M Kd.string _ _ _ t311 [.string t311] from rfl) (Reps.one (show Kd.M Kd.string _ _ _ (⟨#[48]⟩ : ByteArray) [.string (⟨#[48]⟩ : ByteArray)] from rfl) (Reps.none _ _)))); intro v313 w17 ho18 hb hg_ hnew_; clear hg_ hnew_; (first | rw [← Ny312.out] at ho18 | (simp only [Int.reduceToNat] at ho18; rw [← Ny312.out] at ho18)); have n0_ := a_ (Kd.R_lower ho18 (below_size z28_)); have n1_ := a_ (blk_below (g := gb309) (o := .cells #[.int .u64 a0_0, .int .u64 a0_1, .string a0_2, .slice A0_3 l0_3.length c0_3] 39 (0, 0)) z60_ hb); have n2_ := a_ (below_step z28_ hb); clear BK309; clear HB; have HO314 := n0_; have BK309 := n1_; have HB := n2_; clear n0_ n1_ n2_; clear hb ho18; obtain ⟨Ao19, co19, eo19⟩ := Kd.R_slice HO314.out; subst eo19) | ((with_reducible refine gate_callee (f := 36) rfl ?_); refine goesL_ (some 22) rfl rfl Tryz.func36 z74_ rfl #[.int .u8 101, .slice Ao19 y312.length co19] rfl z19_ ?_; (with_reducible refine (cambistref02_Key.calls k 101 _ _ y312 t315 t316 _ ?side1 ?side2 ?side3 A5.out).mono ?_); (case side1 => exact Glob.below HG.out z28_); (case side2 => repeat (first | exact (Kd.R_reads' HO314.out).2.2 | (with_reducible refine Kd.C_alloc ?_ _) | (with_reducible refine Kd.C_drewN ?_ _) | (with_reducible refine Kd.C_drew ?_))); (case side3 => exact (Kd.R_reads' HO314.out).2.1); rintro e w20 ⟨rfl, hb⟩; refine ⟨_, rfl, ?_⟩; have n0_ := a_ (Kd.R_below z38_ hb); have n1_ := a_ (blk_below (g := gb309) (o := .cells #[.int .u64 a0_0, .int .u64 a0_1, .string a0_2, .slice A0_3 l0_3.length c0_3] 39 (0, 0)) z60_ hb); have n2_ := a_ (below_step z28_ hb); clear HO314; clear BK309; clear HB; have HO314 := n0_; have BK309 := n1_; have HB := n2_; clear n0_ n1_ n2_; (try clear hb); (try clear hb2); (try clear hk); (try clear hi)))
      have n0_ := a_ (Kd.R_drew HO314.out)
      have n1_ := a_ (blk_drew BK309.out)
      have n2_ := a_ (below_drew1 HB.out)
      clear HO314
      clear BK309
      clear HB
      have HO314 := n0_
      have BK309 := n1_
      have HB := n2_
      clear n0_ n1_ n2_
      refine start_ (n := 17) (S := fun w' => w'.cell? ⟨gb309, 0, none⟩ = some (.int .u64 a0_0) ∧ w'.cell? ⟨gb309, 1, none⟩ = some (.int .u64 a0_1) ∧ w'.cell? ⟨gb309, 2, none⟩ = some (.string a0_2) ∧ w'.cell? ⟨gb309, 3, none⟩ = some (.slice A0_3 l0_3.length c0_3)) (ds := []) #[false, false, false, false, false, false, false, false, false, false, false, false, false, false, false, false, false] z74_ rfl rfl ⟨(blk_cell BK309.out 0).trans rfl, (blk_cell BK309.out 1).trans rfl, (blk_cell BK309.out 2).trans rfl, (blk_cell BK309.out 3).trans rfl⟩ (fun hHeld => ?_); refine with_tabW cambistref12_Pairs.tab5 cambistref12_Pairs.bits5 (fun HT_ HW_ => ?_)
      generalize w20.drew = w21 at HO314 BK309 HB hHeld ⊢
      refine pure_ (i := 0) (N := some 25) (v := ?_) (a' := ?_) (fl_ 17 1) rfl rfl (any_of HT_.out z74_) (fun _ _ _ h => h) (Or.inl ⟨by rfl, ?_⟩) ?_ ?_
      rotate_left
      ·intro w'
       go_simp
       with_reducible rfl
      rotate_left
      ·simp only [Act.put, sT_, s0_, sS_, i64_w, i32_w]
       rfl
      refine pure_ (i := 1) (N := some 26) (v := ?_) (a' := ?_) (fl_ 17 3) rfl rfl (any_of HT_.out z74_) (fun _ _ _ h => h) (Or.inl ⟨by rfl, ?_⟩) ?_ ?_
      rotate_left
      ·intro w'
       go_simp
       with_reducible rfl
      rotate_left
      ·simp only [Act.put, sT_, s0_, sS_, i64_w, i32_w]
       rfl
      refine pure_ (i := 5) (N := some 30) (v := ?_) (a' := ?_) (fl_ 17 35) rfl rfl (any_of HT_.out z74_) (fun _ _ _ h => h) (Or.inl ⟨by rfl, ?_⟩) ?_ ?_
      rotate_left
      ·intro w'
       go_simp
       with_reducible rfl
      rotate_left
      ·simp only [Act.put, sT_, s0_, sS_, i64_w, i32_w]
       rfl
      refine pure_ (i := 9) (N := some 34) (v := ?_) (a' := ?_) (fl_ 17 547) rfl rfl (any_of HT_.out z74_) (fun _ _ _ h => h) (Or.inl ⟨by rfl, ?_⟩) ?_ ?_
      rotate_left
      ·intro w'
       go_simp
       with_reducible rfl
      rotate_left
      ·simp only [Act.put, sT_, s0_, sS_, i64_w, i32_w]
       rfl
      refine take_ (i := 2) (N := some 27) (v := ?_) (a' := ?_) (fl_ 17 551) rfl rfl (take_ofW HT_.out HW_.out z74_) (fun _ _ _ h => h) (Or.inl ⟨by rfl, ?_⟩) hHeld ?_ ?_
      rotate_left
      ·rintro w' ⟨s0, s1, s2, s3⟩
       go_simp
       with_reducible rfl
      rotate_left
      ·simp only [Act.put, sT_, s0_, sS_, i64_w, i32_w]
       rfl
      refine take_ (i := 6) (N := some 31) (v := ?_) (a' := ?_) (fl_ 17 615) rfl rfl (take_ofW HT_.out HW_.out z74_) (fun _ _ _ h => h) (Or.inl ⟨by rfl, ?_⟩) hHeld ?_ ?_
      rotate_left
      ·rintro w' ⟨s0, s1, s2, s3⟩
       go_simp
       with_reducible rfl
      rotate_left
      ·simp only [Act.put, sT_, s0_, sS_, i64_w, i32_w]
       rfl
      refine take_ (i := 10) (N := some 35) (v := ?_) (a' := ?_) (fl_ 17 1639) rfl rfl (take_ofW HT_.out HW_.out z74_) (fun _ _ _ h => h) (Or.inl ⟨by rfl, ?_⟩) hHeld ?_ ?_
      rotate_left
      ·rintro w' ⟨s0, s1, s2, s3⟩
       go_simp
       with_reducible rfl
      rotate_left
      ·simp only [Act.put, sT_, s0_, sS_, i64_w, i32_w]
       rfl
      refine pure_ (i := 11) (N := some 36) (v := ?_) (a' := ?_) (fl_ 17 3687) rfl rfl (any_of HT_.out z74_) (fun _ _ _ h => h) (Or.inl ⟨by rfl, ?_⟩) ?_ ?_
      rotate_left
      ·intro w'
       go_simp
       with_reducible rfl
      rotate_left
      ·simp only [Act.put, sT_, s0_, sS_, i64_w, i32_w]
       rfl
      refine one_ (i := 3) (N := some 28) (fl_ 17 3695) rfl rfl (one_of HT_.out z74_) (by decide) (fun K hK => ?_)
      refine goes_ Tryz.func35 z74_ rfl #[.int .u64 a0_1] (by rfl) rfl rfl z19_ ?_
      with_reducible refine (cambistref02_Digits.calls k a0_1 t317 _ ?side1 A6.out).mono ?_
      (case side1 => exact Glob.below HG.out z28_)
      rintro e w22 ⟨rfl, hb⟩
      refine ⟨_, rfl, ?_⟩
      have n0_ := a_ (Kd.R_below z38_ hb)
      have n1_ := a_ (blk_below (g := gb309) (o := .cells #[.int .u64 a0_0, .int .u64 a0_1, .string a0_2, .slice A0_3 l0_3.length c0_3] 39 (0, 0)) z60_ hb)
      have n2_ := a_ (below_step z28_ hb)
      clear HO314
      clear BK309
      clear HB
      have HO314 := n0_
      have BK309 := n1_
      have HB := n2_
      clear n0_ n1_ n2_
      (try clear hb)
      (try clear hb2)
      (try clear hk)
      (try clear hi)
      refine hK.out _ _ ⟨(blk_cell BK309.out 0).trans rfl, (blk_cell BK309.out 1).trans rfl, (blk_cell BK309.out 2).trans rfl, (blk_cell BK309.out 3).trans rfl⟩ (fun hHeld => ?_)
      clear hK K
      refine norm_ (a' := ?_) ?_ ?_
      rotate_left
      ·show Act.put _ (some 28) _ = _
       simp only [Act.put, sT_, s0_, sS_, i64_w, i32_w]
       rfl
      refine pure_ (i := 4) (N := some 29) (v := ?_) (a' := ?_) (fl_ 17 3711) rfl rfl (any_of HT_.out z74_) (fun _ _ _ h => h) (Or.inl ⟨by rfl, ?_⟩) ?_ ?_
      rotate_left
      ·intro w'
       go_simp
       with_reducible rfl
      rotate_left
      ·simp only [Act.put, sT_, s0_, sS_, i64_w, i32_w]
       rfl
      refine pure_ (i := 7) (N := some 32) (v := ?_) (a' := ?_) (fl_ 17 3839) rfl rfl (any_of HT_.out z74_) (fun _ _ _ h => h) (Or.inl ⟨by rfl, ?_⟩) ?_ ?_
      rotate_left
      ·intro w'
       go_simp
       with_reducible rfl
      rotate_left
      ·simp only [Act.put, sT_, s0_, sS_, i64_w, i32_w]
       rfl
      refine pure_ (i := 8) (N := some 33) (v := ?_) (a' := ?_) (fl_ 17 4095) rfl rfl (any_of HT_.out z74_) (fun _ _ _ h => h) (Or.inl ⟨by rfl, ?_⟩) ?_ ?_
      rotate_left
      ·intro w'
       go_simp
       with_reducible rfl
      rotate_left
      ·simp only [Act.put, sT_, s0_, sS_, i64_w, i32_w]
       rfl
      refine one_ (i := 12) (N := some 37) (fl_ 17 8191) rfl rfl (one_of HT_.out z74_) (by decide) (fun K hK => ?_)
      refine goes_ Tryz.func37 z74_ rfl #[.int .i64 (l0_3.length : Int)] (by rfl) rfl rfl z19_ ?_
      with_reducible refine (cambistref01_Text.calls k (l0_3.length : Int) t318 _ ?side1 A10.out).mono ?_
      (case side1 => exact Glob.below HG.out z28_)
      rintro e w23 ⟨rfl, hb⟩
      refine ⟨_, rfl, ?_⟩
      have n0_ := a_ (Kd.R_below z38_ hb)
      have n1_ := a_ (blk_below (g := gb309) (o := .cells #[.int .u64 a0_0, .int .u64 a0_1, .string a0_2, .slice A0_3 l0_3.length c0_3] 39 (0, 0)) z60_ hb)
      have n2_ := a_ (below_step z28_ hb)
      clear HO314
      clear BK309
      clear HB
      have HO314 := n0_
      have BK309 := n1_
      have HB := n2_
      clear n0_ n1_ n2_
      (try clear hb)
      (try clear hb2)
      (try clear hk)
      (try clear hi)
      refine hK.out _ _ ⟨(blk_cell BK309.out 0).trans rfl, (blk_cell BK309.out 1).trans rfl, (blk_cell BK309.out 2).trans rfl, (blk_cell BK309.out 3).trans rfl⟩ (fun hHeld => ?_)
      clear hK K
      refine norm_ (a' := ?_) ?_ ?_
      rotate_left
      ·show Act.put _ (some 37) _ = _
       simp only [Act.put, sT_, s0_, sS_, i64_w, i32_w]
       rfl
      refine pure_ (i := 13) (N := some 38) (v := ?_) (a' := ?_) (fl_ 17 16383) rfl rfl (any_of HT_.out z74_) (fun _ _ _ h => h) (Or.inl ⟨by rfl, ?_⟩) ?_ ?_
      rotate_left
      ·intro w'
       go_simp
       with_reducible rfl
      rotate_left
      ·simp only [Act.put, sT_, s0_, sS_, i64_w, i32_w]
       rfl
      refine pure_ (i := 14) (N := some 39) (v := ?_) (a' := ?_) (fl_ 17 32767) rfl rfl (any_of HT_.out z74_) (fun _ _ _ h => h) (Or.inl ⟨by rfl, ?_⟩) ?_ ?_
      rotate_left
      ·intro w'
       go_simp
       with_reducible rfl
      rotate_left
      ·simp only [Act.put, sT_, s0_, sS_, i64_w, i32_w]
       rfl
      refine one_ (i := 15) (N := some 40) (fl_ 17 65535) rfl rfl (one_of HT_.out z74_) (by decide) (fun K hK => ?_)
      refine Kd.R_lit_step k26 _ 26 ?hg (N := 40) ?hd (xs := ([(⟨t315, (((t317 ++ (⟨#[124]⟩ : ByteArray)) ++ a0_2) ++ (⟨#[124]⟩ : ByteArray)) ++ t318⟩ : S26)] : List (S26))) (inner := [.string t315, .string ((((t317 ++ (⟨#[124]⟩ : ByteArray)) ++ a0_2) ++ (⟨#[124]⟩ : ByteArray)) ++ t318)]) (ok := fun _ => True) (okp := fun _ => True) ?hr ?hp (fun _ hk => hk) trivial (Below.refl _ _) (Nat.le_refl _) (by simp) ?_; (case hd => rfl); (case hg => rfl); (case hr => first | (go_simp; done) | (go_simp; rfl)); (case hp => exact (Reps.c2 (show Kd.M k26 _ _ _ (⟨t315, (((t317 ++ (⟨#[124]⟩ : ByteArray)) ++ a0_2) ++ (⟨#[124]⟩ : ByteArray)) ++ t318⟩ : S26) [.string t315, .string ((((t317 ++ (⟨#[124]⟩ : ByteArray)) ++ a0_2) ++ (⟨#[124]⟩ : ByteArray)) ++ t318)] from (k26_mkM _ _ _ (⟨t315, (((t317 ++ (⟨#[124]⟩ : ByteArray)) ++ a0_2) ++ (⟨#[124]⟩ : ByteArray)) ++ t318⟩ : S26) )) (Reps.none _ _)))
      intro v320 w24 ho25 hb hg_ hnew_
      clear hg_ hnew_
      (first | rw [← Ny319.out] at ho25 | (simp only [Int.reduceToNat] at ho25; rw [← Ny319.out] at ho25))
      have n0_ := a_ (Kd.R_below z38_ hb)
      have n1_ := a_ (Kd.R_lower ho25 (below_size z28_))
      have n2_ := a_ (blk_below (g := gb309) (o := .cells #[.int .u64 a0_0, .int .u64 a0_1, .string a0_2, .slice A0_3 l0_3.length c0_3] 39 (0, 0)) z60_ hb)
      have n3_ := a_ (below_step z28_ hb)
      clear HO314
      clear BK309
      clear HB
      have HO314 := n0_
      have HO321 := n1_
      have BK309 := n2_
      have HB := n3_
      clear n0_ n1_ n2_ n3_
      clear hb ho25
      refine hK.out _ _ ⟨(blk_cell BK309.out 0).trans rfl, (blk_cell BK309.out 1).trans rfl, (blk_cell BK309.out 2).trans rfl, (blk_cell BK309.out 3).trans rfl⟩ (fun hHeld => ?_)
      clear hK K
      refine norm_ (a' := ?_) ?_ ?_
      rotate_left
      ·show Act.put _ (some 40) _ = _
       simp only [Act.put, sT_, s0_, sS_, i64_w, i32_w]
       rfl
      refine pure_ (i := 16) (N := some 7) (v := ?_) (a' := ?_) (fl_ 17 131071) rfl rfl (any_of HT_.out z74_) (fun _ _ _ h => h) (Or.inl ⟨by rfl, ?_⟩) ?_ ?_
      rotate_left
      ·intro w'
       go_simp
       with_reducible rfl
      rotate_left
      ·simp only [Act.put, sT_, s0_, sS_, i64_w, i32_w]
       rfl
      refine done_ (done_of HT_.out z74_) ?_
      try go_wp2
      go_loopg [7, 8] k (fun kq v7 v8 w' => ∃ (x7_1 : List (S26)) (x8_1 : Int), v8 = .int .i64 x8_1 ∧ Aside0 (cambistref12_Pairs.l0 kq t311 x7_1 x8_1 a0_0 a0_1 a0_2 l0_3 = some (r1, r2)) ∧ Aside0 (kq ≤ k) ∧ Aside0 (Kd.R k26 26 w' w.heap.size (fun _ => True) v7 x7_1) ∧ Aside0 (w'.heap[gb309]? = some (.cells #[.int .u64 a0_0, .int .u64 a0_1, .string a0_2, (.slice A0_3 l0_3.length c0_3)] 39 (0, 0))) ∧ Aside0 (Below w.heap.size w w'))
      case atStart => exact ⟨(y319), (0), z71_, H', ⟨Nat.le_refl _⟩, ⟨by (with_reducible repeat (first | apply Kd.R_alloc | apply Kd.R_drewN | apply Kd.R_drew)); exact HO321.out⟩, ⟨z60_⟩, ⟨z28_⟩⟩
      case round =>
       clear H'
       try clear c1
       try clear c2
       try clear p2
       try clear c3
       try clear c3b0
       try clear c3b1
       try clear c7
       try clear c7b0
       try clear c7b1
       try clear c7b2
       try clear c8
       try clear c8b0
       try clear c8b1
       try clear c8b2
       try clear c9
       try clear c9b0
       try clear c9b1
       try clear c9b2
       try clear c11
       try clear c11b0
       try clear c11b1
       try clear c11b2
       try clear c15
       try clear hcz13_0
       try clear hcz13_1
       try clear hcz13_2
       try clear hcz13_3
       try clear hcz15_0
       try clear hcz15_1
       try clear hcz15_2
       try clear hcz15_3
       try clear hfz13_0
       try clear hfz13_1
       try clear hfz13_2
       try clear hfz13_3
       try clear hfz15_0
       try clear hfz15_1
       try clear hfz15_2
       try clear hfz15_3
       obtain ⟨x7_1, x8_1, rfl, HA, HK1, HO_7, BK309, HB⟩ := hrel
       cases gk with
       | zero => exact absurd HA.out (by simp [cambistref12_Pairs.l0])
       | succ k1 =>
        have H := HA.out
        clear HA
        simp only [cambistref12_Pairs.l0] at H
        by_cases c26 : x8_1 < (l0_3.length : Int)
        ·rw [if_pos c26] at H
         have c26b0 : decide (x8_1 < (l0_3.length : Int)) = true := decide_eq_true c26
         clear c26
         by_cases c27 : 0 ≤ x8_1
         ·rw [if_pos c27] at H
          have c27b0 : decide (0 ≤ x8_1) = true := decide_eq_true c27
          clear c27
          replace H := Option.bind_eq_some_iff.mp H
          obtain ⟨t324, A280, H⟩ := H
          replace H : (if 12 ≤ (t324.size : Int) then (if 1 + (t324.extract 12 t324.size).size ≤ 9223372036854775807 then ((cambistref02_Key.f k1 101 (([t311, (⟨#[49]⟩ : ByteArray) ++ (t324.extract 12 t324.size)] : List ByteArray))).bind fun bt328 => (if ((rd_T36 l0_3 x8_1).f0).size + 1 ≤ 9223372036854775807 then (if (((rd_T36 l0_3 x8_1).f0) ++ (⟨#[124]⟩ : ByteArray)).size + ((rd_T36 l0_3 x8_1).f1).size ≤ 9223372036854775807 then (if ((((rd_T36 l0_3 x8_1).f0) ++ (⟨#[124]⟩ : ByteArray)) ++ ((rd_T36 l0_3 x8_1).f1)).size + 1 ≤ 9223372036854775807 then ((cambistref01_Text.f k1 ((rd_T36 l0_3 x8_1).f2)).bind fun t330 => (if (((((rd_T36 l0_3 x8_1).f0) ++ (⟨#[124]⟩ : ByteArray)) ++ ((rd_T36 l0_3 x8_1).f1)) ++ (⟨#[124]⟩ : ByteArray)).size + t330.size ≤ 9223372036854775807 then (if x7_1.length < 4398046511104 then (cambistref12_Pairs.l0 k1 t311 (x7_1 ++ [(⟨bt328.1, (((((rd_T36 l0_3 x8_1).f0) ++ (⟨#[124]⟩ : ByteArray)) ++ ((rd_T36 l0_3 x8_1).f1)) ++ (⟨#[124]⟩ : ByteArray)) ++ t330⟩ : S26)]) (wrap64 (x8_1 + 1)) a0_0 a0_1 a0_2 l0_3) else (none)) else (none))) else (none)) else (none)) else (none))) else (none)) else (none)) = some (r1, r2) := H
          have A28 := a_ A280
          clear A280
          by_cases c29 : 12 ≤ (t324.size : Int)
          ·rw [if_pos c29] at H
           have c29b0 := eq_true c29
           have c29b1 : decide (12 ≤ (t324.size : Int)) = true := decide_eq_true c29
           clear c29
           by_cases c30 : 1 + (t324.extract 12 t324.size).size ≤ 9223372036854775807
           ·rw [if_pos c30] at H
            have c30b0 := eq_true c30
            have c30b1 : decide (1 + (t324.extract 12 t324.size).size ≤ 9223372036854775807) = true := decide_eq_true c30
            try have c30b2 : (9223372036854775807 < 1 + (t324.extract 12 t324.size).size) = False := eq_false (Nat.not_lt.2 c30)
            try have c30b5 : (9223372036854775807 < 1 + (t324.size - 12)) = False := by have h_ := c30b2; simpa [ByteArray.size_append, ByteArray.size_extract] using h_
            obtain ⟨y325, hy325⟩ : ∃ y_ : List ByteArray, y_ = (([t311, (⟨#[49]⟩ : ByteArray) ++ (t324.extract 12 t324.size)] : List ByteArray)) := ⟨_, rfl⟩
            replace H : ((cambistref02_Key.f k1 101 y325).bind fun bt328 => (if ((rd_T36 l0_3 x8_1).f0).size + 1 ≤ 9223372036854775807 then (if (((rd_T36 l0_3 x8_1).f0) ++ (⟨#[124]⟩ : ByteArray)).size + ((rd_T36 l0_3 x8_1).f1).size ≤ 9223372036854775807 then (if ((((rd_T36 l0_3 x8_1).f0) ++ (⟨#[124]⟩ : ByteArray)) ++ ((rd_T36 l0_3 x8_1).f1)).size + 1 ≤ 9223372036854775807 then ((cambistref01_Text.f k1 ((rd_T36 l0_3 x8_1).f2)).bind fun t330 => (if (((((rd_T36 l0_3 x8_1).f0) ++ (⟨#[124]⟩ : ByteArray)) ++ ((rd_T36 l0_3 x8_1).f1)) ++ (⟨#[124]⟩ : ByteArray)).size + t330.size ≤ 9223372036854775807 then (if x7_1.length < 4398046511104 then (cambistref12_Pairs.l0 k1 t311 (x7_1 ++ [(⟨bt328.1, (((((rd_T36 l0_3 x8_1).f0) ++ (⟨#[124]⟩ : ByteArray)) ++ ((rd_T36 l0_3 x8_1).f1)) ++ (⟨#[124]⟩ : ByteArray)) ++ t330⟩ : S26)]) (wrap64 (x8_1 + 1)) a0_0 a0_1 a0_2 l0_3) else (none)) else (none))) else (none)) else (none)) else (none))) = some (r1, r2) := by first | (rw [hy325]; with_reducible exact H) | (have H2_ := (Option.bind_some _ _).symm.trans H; rw [hy325]; with_reducible exact H2_) | (have H2_ := (Option.bind_some _ _).symm.trans H; with_reducible exact H2_) | with_reducible exact H | (rw [hy325]; exact H) | exact H
            have Ny325 := a_ hy325
            clear hy325
            replace H := Option.bind_eq_some_iff.mp H
            obtain ⟨⟨t328, t329⟩, A310, H⟩ := H
            replace H : (if ((rd_T36 l0_3 x8_1).f0).size + 1 ≤ 9223372036854775807 then (if (((rd_T36 l0_3 x8_1).f0) ++ (⟨#[124]⟩ : ByteArray)).size + ((rd_T36 l0_3 x8_1).f1).size ≤ 9223372036854775807 then (if ((((rd_T36 l0_3 x8_1).f0) ++ (⟨#[124]⟩ : ByteArray)) ++ ((rd_T36 l0_3 x8_1).f1)).size + 1 ≤ 9223372036854775807 then ((cambistref01_Text.f k1 ((rd_T36 l0_3 x8_1).f2)).bind fun t330 => (if (((((rd_T36 l0_3 x8_1).f0) ++ (⟨#[124]⟩ : ByteArray)) ++ ((rd_T36 l0_3 x8_1).f1)) ++ (⟨#[124]⟩ : ByteArray)).size + t330.size ≤ 9223372036854775807 then (if x7_1.length < 4398046511104 then (cambistref12_Pairs.l0 k1 t311 (x7_1 ++ [(⟨t328, (((((rd_T36 l0_3 x8_1).f0) ++ (⟨#[124]⟩ : ByteArray)) ++ ((rd_T36 l0_3 x8_1).f1)) ++ (⟨#[124]⟩ : ByteArray)) ++ t330⟩ : S26)]) (wrap64 (x8_1 + 1)) a0_0 a0_1 a0_2 l0_3) else (none)) else (none))) else (none)) else (none)) else (none)) = some (r1, r2) := H
            have A31 := a_ A310
            clear A310
            by_cases c32 : ((rd_T36 l0_3 x8_1).f0).size + 1 ≤ 9223372036854775807
            ·rw [if_pos c32] at H
             have c32b0 := eq_true c32
             have c32b1 : decide (((rd_T36 l0_3 x8_1).f0).size + 1 ≤ 9223372036854775807) = true := decide_eq_true c32
             try have c32b2 : (9223372036854775807 < ((rd_T36 l0_3 x8_1).f0).size + 1) = False := eq_false (Nat.not_lt.2 c32)
             by_cases c33 : (((rd_T36 l0_3 x8_1).f0) ++ (⟨#[124]⟩ : ByteArray)).size + ((rd_T36 l0_3 x8_1).f1).size ≤ 9223372036854775807
             ·rw [if_pos c33] at H
              have c33b0 := eq_true c33
              have c33b1 : decide ((((rd_T36 l0_3 x8_1).f0) ++ (⟨#[124]⟩ : ByteArray)).size + ((rd_T36 l0_3 x8_1).f1).size ≤ 9223372036854775807) = true := decide_eq_true c33
              try have c33b2 : (9223372036854775807 < (((rd_T36 l0_3 x8_1).f0) ++ (⟨#[124]⟩ : ByteArray)).size + ((rd_T36 l0_3 x8_1).f1).size) = False := eq_false (Nat.not_lt.2 c33)
              try have c33b3 : (9223372036854775807 < ((rd_T36 l0_3 x8_1).f0).size + 1 + ((rd_T36 l0_3 x8_1).f1).size) = False := by have h_ := c33b2; simp only [ByteArray.size_append] at h_; exact h_
              by_cases c34 : ((((rd_T36 l0_3 x8_1).f0) ++ (⟨#[124]⟩ : ByteArray)) ++ ((rd_T36 l0_3 x8_1).f1)).size + 1 ≤ 9223372036854775807
              ·rw [if_pos c34] at H
               have c34b0 := eq_true c34
               have c34b1 : decide (((((rd_T36 l0_3 x8_1).f0) ++ (⟨#[124]⟩ : ByteArray)) ++ ((rd_T36 l0_3 x8_1).f1)).size + 1 ≤ 9223372036854775807) = true := decide_eq_true c34
               try have c34b2 : (9223372036854775807 < ((((rd_T36 l0_3 x8_1).f0) ++ (⟨#[124]⟩ : ByteArray)) ++ ((rd_T36 l0_3 x8_1).f1)).size + 1) = False := eq_false (Nat.not_lt.2 c34)
               try have c34b3 : (9223372036854775807 < ((rd_T36 l0_3 x8_1).f0).size + 1 + ((rd_T36 l0_3 x8_1).f1).size + 1) = False := by have h_ := c34b2; simp only [ByteArray.size_append] at h_; exact h_
               try have c34b4 : (9223372036854775807 < ((rd_T36 l0_3 x8_1).f0).size + ((rd_T36 l0_3 x8_1).f1).size + 2) = False := by have h_ := c34b3; simp only [Nat.add_assoc, Nat.reduceAdd] at h_ ⊢; exact h_
               replace H := Option.bind_eq_some_iff.mp H
               obtain ⟨t330, A350, H⟩ := H
               replace H : (if (((((rd_T36 l0_3 x8_1).f0) ++ (⟨#[124]⟩ : ByteArray)) ++ ((rd_T36 l0_3 x8_1).f1)) ++ (⟨#[124]⟩ : ByteArray)).size + t330.size ≤ 9223372036854775807 then (if x7_1.length < 4398046511104 then (cambistref12_Pairs.l0 k1 t311 (x7_1 ++ [(⟨t328, (((((rd_T36 l0_3 x8_1).f0) ++ (⟨#[124]⟩ : ByteArray)) ++ ((rd_T36 l0_3 x8_1).f1)) ++ (⟨#[124]⟩ : ByteArray)) ++ t330⟩ : S26)]) (wrap64 (x8_1 + 1)) a0_0 a0_1 a0_2 l0_3) else (none)) else (none)) = some (r1, r2) := H
               have A35 := a_ A350
               clear A350
               by_cases c36 : (((((rd_T36 l0_3 x8_1).f0) ++ (⟨#[124]⟩ : ByteArray)) ++ ((rd_T36 l0_3 x8_1).f1)) ++ (⟨#[124]⟩ : ByteArray)).size + t330.size ≤ 9223372036854775807
               ·rw [if_pos c36] at H
                have c36b0 := eq_true c36
                have c36b1 : decide ((((((rd_T36 l0_3 x8_1).f0) ++ (⟨#[124]⟩ : ByteArray)) ++ ((rd_T36 l0_3 x8_1).f1)) ++ (⟨#[124]⟩ : ByteArray)).size + t330.size ≤ 9223372036854775807) = true := decide_eq_true c36
                try have c36b2 : (9223372036854775807 < (((((rd_T36 l0_3 x8_1).f0) ++ (⟨#[124]⟩ : ByteArray)) ++ ((rd_T36 l0_3 x8_1).f1)) ++ (⟨#[124]⟩ : ByteArray)).size + t330.size) = False := eq_false (Nat.not_lt.2 c36)
                try have c36b3 : (9223372036854775807 < ((rd_T36 l0_3 x8_1).f0).size + 1 + ((rd_T36 l0_3 x8_1).f1).size + 1 + t330.size) = False := by have h_ := c36b2; simp only [ByteArray.size_append] at h_; exact h_
                try have c36b4 : (9223372036854775807 < ((rd_T36 l0_3 x8_1).f0).size + ((rd_T36 l0_3 x8_1).f1).size + t330.size + 2) = False := by have h_ := c36b3; simp only [Nat.add_assoc, Nat.reduceAdd] at h_ ⊢; exact h_
                by_cases c37 : x7_1.length < 4398046511104
                ·rw [if_pos c37] at H
                 have LMc37 := a_ c37
                 clear c37
                 obtain ⟨y331, hy331⟩ : ∃ y_ : List (S26), y_ = (x7_1 ++ [(⟨t328, (((((rd_T36 l0_3 x8_1).f0) ++ (⟨#[124]⟩ : ByteArray)) ++ ((rd_T36 l0_3 x8_1).f1)) ++ (⟨#[124]⟩ : ByteArray)) ++ t330⟩ : S26)]) := ⟨_, rfl⟩
                 replace H : (cambistref12_Pairs.l0 k1 t311 y331 (wrap64 (x8_1 + 1)) a0_0 a0_1 a0_2 l0_3) = some (r1, r2) := by first | (rw [hy331]; with_reducible exact H) | (have H2_ := (Option.bind_some _ _).symm.trans H; rw [hy331]; with_reducible exact H2_) | (have H2_ := (Option.bind_some _ _).symm.trans H; with_reducible exact H2_) | with_reducible exact H | (rw [hy331]; exact H) | exact H
                 have Ny331 := a_ hy331
                 clear hy331
                 have H' := a_ H
                 clear H
                 have hcz38_0 : wr.cell? ⟨gb309, 0, none⟩ = some (.int .u64 a0_0) := (blk_cell BK309.out 0).trans rfl
                 have hcz38_1 : wr.cell? ⟨gb309, 1, none⟩ = some (.int .u64 a0_1) := (blk_cell BK309.out 1).trans rfl
                 have hcz38_2 : wr.cell? ⟨gb309, 2, none⟩ = some (.string a0_2) := (blk_cell BK309.out 2).trans rfl
                 have hcz38_3 : wr.cell? ⟨gb309, 3, none⟩ = some (.slice A0_3 l0_3.length c0_3) := (blk_cell BK309.out 3).trans rfl
                 have hfz38_0 := blk_frozen BK309.out 0
                 have hfz38_1 := blk_frozen BK309.out 1
                 have hfz38_2 := blk_frozen BK309.out 2
                 have hfz38_3 := blk_frozen BK309.out 3
                 have p322 : 0 ≤ (x8_1 : Int) := of_decide_eq_true z70_
                 have q322 : x8_1 < (l0_3.length : Int) := of_decide_eq_true z70_
                 obtain ⟨ad322, e322, hx322_0, hx322_1, hx322_2⟩ := at_T36 HR0_3.out x8_1 p322 q322
                 cases e322
                 replace hx322_0 := (HB.out.cell (World.block_lt_of_cell? w _ hx322_0)).trans hx322_0
                 replace hx322_1 := (HB.out.cell (World.block_lt_of_cell? w _ hx322_1)).trans hx322_1
                 replace hx322_2 := (HB.out.cell (World.block_lt_of_cell? w _ hx322_2)).trans hx322_2
                 replace p322 := eq_true p322
                 replace q322 := eq_true q322
                 try go_wp2_with (first | ((with_reducible refine gate_dst (N := 9) rfl ?_); refine box_event ?hg (N := 9) ?hd (cs := #[.string (⟨#[]⟩ : ByteArray), .string (⟨#[]⟩ : ByteArray), .int .i64 0]) (t := 36) ?hr ?_; (case hd => rfl); (case hg => rfl); (case hr => first | (go_simp; done) | (go_simp; rfl)); intro gb323 hg w39 hbox hb; have n0_ := a_ (Kd.R_below z49_ hb); have n1_ := a_ (blk_below (g := gb309) (o := .cells #[.int .u64 a0_0, .int .u64 a0_1, .string a0_2, .slice (some ad322) l0_3.length c0_3] 39 (0, 0)) z60_ hb); have n2_ := a_ (below_step z28_ hb); have n3_ := a_ (hbox); have n4_ := a_ ((by rw [hg]; exact (below_size z28_) : w.heap.size ≤ gb323)); have n5_ := a_ ((by rw [hg]; exact (below_size z28_) : w.heap.size ≤ gb323)); have n6_ := a_ ((by rw [hg]; exact Nat.ne_of_lt (blk_lt (g := gb309) (o := .cells #[.int .u64 a0_0, .int .u64 a0_1, .string a0_2, .slice (some ad322) l0_3.length c0_3] 39 (0, 0)) z60_) : gb309 ≠ gb323)); have n7_ := a_ ((by rw [hg]; exact Nat.ne_of_gt (blk_lt (g := gb309) (o := .cells #[.int .u64 a0_0, .int .u64 a0_1, .string a0_2, .slice (some ad322) l0_3.length c0_3] 39 (0, 0)) z60_) : gb323 ≠ gb309)); clear HO_7; clear BK309; clear HB; have HO_7 := n0_; have BK309 := n1_; have HB := n2_; have BK323 := n3_; have GW323 := n4_; have GE323 := n5_; have NB309_323 := n6_; have NB323_309 := n7_; clear n0_ n1_ n2_ n3_ n4_ n5_ n6_ n7_; clear hb hbox hg; have hnb40 := NB323_309.out; have hnc40 := NB309_323.out; have hcz41_0 : w39.cell? ⟨gb323, 0, none⟩ = some (.string (⟨#[]⟩ : ByteArray)) := (blk_cell BK323.out 0).trans rfl; have hcz41_1 : w39.cell? ⟨gb323, 1, none⟩ = some (.string (⟨#[]⟩ : ByteArray)) := (blk_cell BK323.out 1).trans rfl; have hcz41_2 : w39.cell? ⟨gb323, 2, none⟩ = some (.int .i64 0) := (blk_cell BK323.out 2).trans rfl; have hfz41_0 := blk_frozen BK323.out 0; have hfz41_1 := blk_frozen BK323.out 1; have hfz41_2 := blk_frozen BK323.out 2) | ((with_reducible refine gate_callee (f := 35) rfl ?_); refine goesL_ (some 55) rfl rfl Tryz.func35 z74_ rfl #[.int .u64 (IntKind.u64.wrap (x8_1))] rfl z19_ ?_; (with_reducible refine (cambistref02_Digits.calls k1 (IntKind.u64.wrap (x8_1)) t324 _ ?side1 A28.out).mono ?_); (case side1 => exact Glob.below HG.out z16_); rintro e w42 ⟨rfl, hb⟩; refine ⟨_, rfl, ?_⟩; have n0_ := a_ (Kd.R_below (by (with_reducible repeat (first | apply Kd.R_alloc | apply Kd.R_drewN | apply Kd.R_drew)); exact (Kd.R_mono (Kd.R_far (p := ⟨gb323, 2, none⟩) (Kd.R_far (p := ⟨gb323, 1, none⟩) (Kd.R_far (p := ⟨gb323, 0, none⟩) (Kd.R_types HO_7.out BK323.out (by decide)) (fun _ hk => hk.2) (.string ((rd_T36 l0_3 x8_1).f0))) (fun _ hk => hk.2) (.string ((rd_T36 l0_3 x8_1).f1))) (fun _ hk => hk.2) (.int .i64 ((rd_T36 l0_3 x8_1).f2))) (fun _ h_ => h_.1))) hb); have n1_ := a_ (blk_below (g := gb309) (o := .cells #[.int .u64 a0_0, .int .u64 a0_1, .string a0_2, .slice (some ad322) l0_3.length c0_3] 39 (0, 0)) (by (with_reducible repeat (first | refine kN_ ?_ _ | refine kD_ ?_ | refine kA_ ?_ _)); refine blk_far ?_ NB309_323.out _; (with_reducible repeat (first | refine kN_ ?_ _ | refine kD_ ?_ | refine kA_ ?_ _)); refine blk_far ?_ NB309_323.out _; (with_reducible repeat (first | refine kN_ ?_ _ | refine kD_ ?_ | refine kA_ ?_ _)); refine blk_far ?_ NB309_323.out _; (with_reducible repeat (first | refine kN_ ?_ _ | refine kD_ ?_ | refine kA_ ?_ _)); exact BK309.out) hb); have n2_ := a_ (blk_below (g := gb323) (o := .cells #[.string ((rd_T36 l0_3 x8_1).f0), .string ((rd_T36 l0_3 x8_1).f1), .int .i64 ((rd_T36 l0_3 x8_1).f2)] 36 (0, 0)) (by (with_reducible repeat (first | refine kN_ ?_ _ | refine kD_ ?_ | refine kA_ ?_ _)); refine blk_put (cs := #[.string ((rd_T36 l0_3 x8_1).f0), .string ((rd_T36 l0_3 x8_1).f1), .int .i64 0]) ?_ 2 _ rfl; (with_reducible repeat (first | refine kN_ ?_ _ | refine kD_ ?_ | refine kA_ ?_ _)); refine blk_put (cs := #[.string ((rd_T36 l0_3 x8_1).f0), .string (⟨#[]⟩ : ByteArray), .int .i64 0]) ?_ 1 _ rfl; (with_reducible repeat (first | refine kN_ ?_ _ | refine kD_ ?_ | refine kA_ ?_ _)); refine blk_put (cs := #[.string (⟨#[]⟩ : ByteArray), .string (⟨#[]⟩ : ByteArray), .int .i64 0]) ?_ 0 _ rfl; (with_reducible repeat (first | refine kN_ ?_ _ | refine kD_ ?_ | refine kA_ ?_ _)); exact BK323.out) hb); have n3_ := a_ (below_step z16_ hb); clear HO_7; clear BK309; clear BK323; clear HB; have HO_7 := n0_; have BK309 := n1_; have BK323 := n2_; have HB := n3_; clear n0_ n1_ n2_ n3_; (try clear hb); (try clear hb2); (try clear hk); (try clear hi)) | ((with_reducible refine gate_dst (N := 61) rfl ?_); refine Kd.R_lit Kd.string _ 9 ?hg (N := 61) ?hd (xs := ([t311, (⟨#[49]⟩ : ByteArray) ++ (t324.extract 12 t324.size)] : List ByteArray)) (inner := [.string t311, .string ((⟨#[49]⟩ : ByteArray) ++ (t324.extract 12 t324.size))]) (ok := fun _ => True) (okp := fun _ => True) ?hr ?hp (fun _ hk => hk) trivial (Below.refl _ _) (Nat.le_refl _) (by simp) ?_; (case hd => rfl); (case hg => rfl); (case hr => first | (go_simp; done) | (go_simp; rfl)); (case hp => exact (Reps.one (show Kd.M Kd.string _ _ _ t311 [.string t311] from rfl) (Reps.one (show Kd.M Kd.string _ _ _ ((⟨#[49]⟩ : ByteArray) ++ (t324.extract 12 t324.size)) [.string ((⟨#[49]⟩ : ByteArray) ++ (t324.extract 12 t324.size))] from rfl) (Reps.none _ _)))); intro v326 w43 ho44 hb hg_ hnew_; clear hg_ hnew_; (first | rw [← Ny325.out] at ho44 | (simp only [Int.reduceToNat] at ho44; rw [← Ny325.out] at ho44)); have n0_ := a_ (Kd.R_below z49_ hb); have n1_ := a_ (Kd.R_lower ho44 (below_size z16_)); have n2_ := a_ (blk_below (g := gb309) (o := .cells #[.int .u64 a0_0, .int .u64 a0_1, .string a0_2, .slice (some ad322) l0_3.length c0_3] 39 (0, 0)) z60_ hb); have n3_ := a_ (blk_below (g := gb323) (o := .cells #[.string ((rd_T36 l0_3 x8_1).f0), .string ((rd_T36 l0_3 x8_1).f1), .int .i64 ((rd_T36 l0_3 x8_1).f2)] 36 (0, 0)) z61_ hb); have n4_ := a_ (below_step z16_ hb); clear HO_7; clear BK309; clear BK323; clear HB; have HO_7 := n0_; have HO327 := n1_; have BK309 := n2_; have BK323 := n3_; have HB := n4_; clear n0_ n1_ n2_ n3_ n4_; clear hb ho44; obtain ⟨Ao45, co45, eo45⟩ := Kd.R_slice HO327.out; subst eo45) | ((with_reducible refine gate_callee (f := 36) rfl ?_); refine goesL_ (some 62) rfl rfl Tryz.func36 z74_ rfl #[.int .u8 101, .slice Ao45 y325.length co45] rfl z19_ ?_; (with_reducible refine (cambistref02_Key.calls k1 101 _ _ y325 t328 t329 _ ?side1 ?side2 ?side3 A31.out).mono ?_); (case side1 => exact Glob.below HG.out z16_); (case side2 => repeat (first | exact (Kd.R_reads' HO327.out).2.2 | (with_reducible refine Kd.C_alloc ?_ _) | (with_reducible refine Kd.C_drewN ?_ _) | (with_reducible refine Kd.C_drew ?_))); (case side3 => exact (Kd.R_reads' HO327.out).2.1); rintro e w46 ⟨rfl, hb⟩; refine ⟨_, rfl, ?_⟩; have n0_ := a_ (Kd.R_below z49_ hb); have n1_ := a_ (Kd.R_below z39_ hb); have n2_ := a_ (blk_below (g := gb309) (o := .cells #[.int .u64 a0_0, .int .u64 a0_1, .string a0_2, .slice (some ad322) l0_3.length c0_3] 39 (0, 0)) z60_ hb); have n3_ := a_ (blk_below (g := gb323) (o := .cells #[.string ((rd_T36 l0_3 x8_1).f0), .string ((rd_T36 l0_3 x8_1).f1), .int .i64 ((rd_T36 l0_3 x8_1).f2)] 36 (0, 0)) z61_ hb); have n4_ := a_ (below_step z16_ hb); clear HO_7; clear HO327; clear BK309; clear BK323; clear HB; have HO_7 := n0_; have HO327 := n1_; have BK309 := n2_; have BK323 := n3_; have HB := n4_; clear n0_ n1_ n2_ n3_ n4_; (try clear hb); (try clear hb2); (try clear hk); (try clear hi)))
                 have n0_ := a_ (Kd.R_drew HO_7.out)
                 have n1_ := a_ (Kd.R_drew HO327.out)
                 have n2_ := a_ (blk_drew BK309.out)
                 have n3_ := a_ (blk_drew BK323.out)
                 have n4_ := a_ (below_drew1 HB.out)
                 clear HO_7
                 clear HO327
                 clear BK309
                 clear BK323
                 clear HB
                 have HO_7 := n0_
                 have HO327 := n1_
                 have BK309 := n2_
                 have BK323 := n3_
                 have HB := n4_
                 clear n0_ n1_ n2_ n3_ n4_
                 refine start_ (n := 17) (S := fun w' => w'.cell? ⟨gb323, 0, none⟩ = some (.string ((rd_T36 l0_3 x8_1).f0)) ∧ w'.cell? ⟨gb323, 1, none⟩ = some (.string ((rd_T36 l0_3 x8_1).f1)) ∧ w'.cell? ⟨gb323, 2, none⟩ = some (.int .i64 ((rd_T36 l0_3 x8_1).f2))) (ds := []) #[false, false, false, false, false, false, false, false, false, false, false, false, false, false, false, false, false] z74_ rfl rfl ⟨(blk_cell BK323.out 0).trans rfl, (blk_cell BK323.out 1).trans rfl, (blk_cell BK323.out 2).trans rfl⟩ (fun hHeld => ?_); refine with_tabW cambistref12_Pairs.tab12 cambistref12_Pairs.bits12 (fun HT_ HW_ => ?_)
                 generalize w46.drew = w47 at HO_7 HO327 BK309 BK323 HB hHeld ⊢
                 refine pure_ (i := 0) (N := some 65) (v := ?_) (a' := ?_) (fl_ 17 1) rfl rfl (any_of HT_.out z74_) (fun _ _ _ h => h) (Or.inl ⟨by rfl, ?_⟩) ?_ ?_
                 rotate_left
                 ·intro w'
                  go_simp
                  with_reducible rfl
                 rotate_left
                 ·simp only [Act.put, sT_, s0_, sS_, i64_w, i32_w]
                  rfl
                 refine pure_ (i := 1) (N := some 66) (v := ?_) (a' := ?_) (fl_ 17 3) rfl rfl (any_of HT_.out z74_) (fun _ _ _ h => h) (Or.inl ⟨by rfl, ?_⟩) ?_ ?_
                 rotate_left
                 ·intro w'
                  go_simp
                  with_reducible rfl
                 rotate_left
                 ·simp only [Act.put, sT_, s0_, sS_, i64_w, i32_w]
                  rfl
                 refine pure_ (i := 2) (N := some 67) (v := ?_) (a' := ?_) (fl_ 17 7) rfl rfl (any_of HT_.out z74_) (fun _ _ _ h => h) (Or.inl ⟨by rfl, ?_⟩) ?_ ?_
                 rotate_left
                 ·intro w'
                  go_simp
                  with_reducible rfl
                 rotate_left
                 ·simp only [Act.put, sT_, s0_, sS_, i64_w, i32_w]
                  rfl
                 refine pure_ (i := 5) (N := some 70) (v := ?_) (a' := ?_) (fl_ 17 39) rfl rfl (any_of HT_.out z74_) (fun _ _ _ h => h) (Or.inl ⟨by rfl, ?_⟩) ?_ ?_
                 rotate_left
                 ·intro w'
                  go_simp
                  with_reducible rfl
                 rotate_left
                 ·simp only [Act.put, sT_, s0_, sS_, i64_w, i32_w]
                  rfl
                 refine pure_ (i := 9) (N := some 74) (v := ?_) (a' := ?_) (fl_ 17 551) rfl rfl (any_of HT_.out z74_) (fun _ _ _ h => h) (Or.inl ⟨by rfl, ?_⟩) ?_ ?_
                 rotate_left
                 ·intro w'
                  go_simp
                  with_reducible rfl
                 rotate_left
                 ·simp only [Act.put, sT_, s0_, sS_, i64_w, i32_w]
                  rfl
                 refine take_ (i := 3) (N := some 68) (v := ?_) (a' := ?_) (fl_ 17 559) rfl rfl (take_ofW HT_.out HW_.out z74_) (fun _ _ _ h => h) (Or.inl ⟨by rfl, ?_⟩) hHeld ?_ ?_
                 rotate_left
                 ·rintro w' ⟨s0, s1, s2⟩
                  go_simp
                  with_reducible rfl
                 rotate_left
                 ·simp only [Act.put, sT_, s0_, sS_, i64_w, i32_w]
                  rfl
                 refine pure_ (i := 4) (N := some 69) (v := ?_) (a' := ?_) (fl_ 17 575) rfl rfl (any_of HT_.out z74_) (fun _ _ _ h => h) (Or.inl ⟨by rfl, ?_⟩) ?_ ?_
                 rotate_left
                 ·intro w'
                  go_simp
                  with_reducible rfl
                 rotate_left
                 ·simp only [Act.put, sT_, s0_, sS_, i64_w, i32_w]
                  rfl
                 refine take_ (i := 6) (N := some 71) (v := ?_) (a' := ?_) (fl_ 17 639) rfl rfl (take_ofW HT_.out HW_.out z74_) (fun _ _ _ h => h) (Or.inl ⟨by rfl, ?_⟩) hHeld ?_ ?_
                 rotate_left
                 ·rintro w' ⟨s0, s1, s2⟩
                  go_simp
                  with_reducible rfl
                 rotate_left
                 ·simp only [Act.put, sT_, s0_, sS_, i64_w, i32_w]
                  rfl
                 refine pure_ (i := 7) (N := some 72) (v := ?_) (a' := ?_) (fl_ 17 767) rfl rfl (any_of HT_.out z74_) (fun _ _ _ h => h) (Or.inl ⟨by rfl, ?_⟩) ?_ ?_
                 rotate_left
                 ·intro w'
                  go_simp
                  with_reducible rfl
                 rotate_left
                 ·simp only [Act.put, sT_, s0_, sS_, i64_w, i32_w]
                  rfl
                 refine pure_ (i := 8) (N := some 73) (v := ?_) (a' := ?_) (fl_ 17 1023) rfl rfl (any_of HT_.out z74_) (fun _ _ _ h => h) (Or.inl ⟨by rfl, ?_⟩) ?_ ?_
                 rotate_left
                 ·intro w'
                  go_simp
                  with_reducible rfl
                 rotate_left
                 ·simp only [Act.put, sT_, s0_, sS_, i64_w, i32_w]
                  rfl
                 refine take_ (i := 10) (N := some 75) (v := ?_) (a' := ?_) (fl_ 17 2047) rfl rfl (take_ofW HT_.out HW_.out z74_) (fun _ _ _ h => h) (Or.inl ⟨by rfl, ?_⟩) hHeld ?_ ?_
                 rotate_left
                 ·rintro w' ⟨s0, s1, s2⟩
                  go_simp
                  with_reducible rfl
                 rotate_left
                 ·simp only [Act.put, sT_, s0_, sS_, i64_w, i32_w]
                  rfl
                 refine one_ (i := 11) (N := some 76) (fl_ 17 4095) rfl rfl (one_of HT_.out z74_) (by decide) (fun K hK => ?_)
                 refine goes_ Tryz.func37 z74_ rfl #[.int .i64 ((rd_T36 l0_3 x8_1).f2)] (by rfl) rfl rfl z19_ ?_
                 with_reducible refine (cambistref01_Text.calls k1 ((rd_T36 l0_3 x8_1).f2) t330 _ ?side1 A35.out).mono ?_
                 (case side1 => exact Glob.below HG.out z16_)
                 rintro e w48 ⟨rfl, hb⟩
                 refine ⟨_, rfl, ?_⟩
                 have n0_ := a_ (Kd.R_below z49_ hb)
                 have n1_ := a_ (Kd.R_below z39_ hb)
                 have n2_ := a_ (blk_below (g := gb309) (o := .cells #[.int .u64 a0_0, .int .u64 a0_1, .string a0_2, .slice (some ad322) l0_3.length c0_3] 39 (0, 0)) z60_ hb)
                 have n3_ := a_ (blk_below (g := gb323) (o := .cells #[.string ((rd_T36 l0_3 x8_1).f0), .string ((rd_T36 l0_3 x8_1).f1), .int .i64 ((rd_T36 l0_3 x8_1).f2)] 36 (0, 0)) z61_ hb)
                 have n4_ := a_ (below_step z16_ hb)
                 clear HO_7
                 clear HO327
                 clear BK309
                 clear BK323
                 clear HB
                 have HO_7 := n0_
                 have HO327 := n1_
                 have BK309 := n2_
                 have BK323 := n3_
                 have HB := n4_
                 clear n0_ n1_ n2_ n3_ n4_
                 (try clear hb)
                 (try clear hb2)
                 (try clear hk)
                 (try clear hi)
                 refine hK.out _ _ ⟨(blk_cell BK323.out 0).trans rfl, (blk_cell BK323.out 1).trans rfl, (blk_cell BK323.out 2).trans rfl⟩ (fun hHeld => ?_)
                 clear hK K
                 refine norm_ (a' := ?_) ?_ ?_
                 rotate_left
                 ·show Act.put _ (some 76) _ = _
                  simp only [Act.put, sT_, s0_, sS_, i64_w, i32_w]
                  rfl
                 refine pure_ (i := 12) (N := some 77) (v := ?_) (a' := ?_) (fl_ 17 8191) rfl rfl (any_of HT_.out z74_) (fun _ _ _ h => h) (Or.inl ⟨by rfl, ?_⟩) ?_ ?_
                 rotate_left
                 ·intro w'
                  go_simp
                  with_reducible rfl
                 rotate_left
                 ·simp only [Act.put, sT_, s0_, sS_, i64_w, i32_w]
                  rfl
                 refine pure_ (i := 13) (N := some 78) (v := ?_) (a' := ?_) (fl_ 17 16383) rfl rfl (any_of HT_.out z74_) (fun _ _ _ h => h) (Or.inl ⟨by rfl, ?_⟩) ?_ ?_
                 rotate_left
                 ·intro w'
                  go_simp
                  with_reducible rfl
                 rotate_left
                 ·simp only [Act.put, sT_, s0_, sS_, i64_w, i32_w]
                  rfl
                 refine one_ (i := 14) (N := some 79) (fl_ 17 32767) rfl rfl (one_of HT_.out z74_) (by decide) (fun K hK => ?_)
                 refine value_ (w1 := ?_) (v := ?_) (by rfl) rfl ?_ ?_
                 rotate_left 2
                 ·go_simp
                  constructor
                  ·rfl
                  ·rfl
                 refine hK.out _ _ ⟨(blk_cell (blk_alloc BK323.out _) 0).trans rfl, (blk_cell (blk_alloc BK323.out _) 1).trans rfl, (blk_cell (blk_alloc BK323.out _) 2).trans rfl⟩ (fun hHeld => ?_)
                 clear hK K
                 refine norm_ (a' := ?_) ?_ ?_
                 rotate_left
                 ·show Act.put _ (some 79) _ = _
                  simp only [Act.put, sT_, s0_, sS_, i64_w, i32_w]
                  rfl
                 refine one_ (i := 15) (N := some 80) (fl_ 17 65535) rfl rfl (one_of HT_.out z74_) (by decide) (fun K hK => ?_)
                 refine Kd.R_append_step k26 (w0 := w) w.heap.size (by rfl) (.tmp 65) (.tmp 79) 22 26 (.agg #[(.string ⟨#[]⟩), (.string ⟨#[]⟩)]) 32 rfl Tryz.underlying22 info26 rfl (by decide) (by omega) u7 x7_1 (⟨t328, (((((rd_T36 l0_3 x8_1).f0) ++ (⟨#[124]⟩ : ByteArray)) ++ ((rd_T36 l0_3 x8_1).f1)) ++ (⟨#[124]⟩ : ByteArray)) ++ t330⟩ : S26) [.string t328, .string ((((((rd_T36 l0_3 x8_1).f0) ++ (⟨#[124]⟩ : ByteArray)) ++ ((rd_T36 l0_3 x8_1).f1)) ++ (⟨#[124]⟩ : ByteArray)) ++ t330)] (fun _ => True) (fun _ => False) rfl rfl ?aP (fun _ hk => hk.elim) ?aF ?aO ?aB ?aS ?aL ?_
                 (case aP => exact k26_mkM _ _ _ (⟨t328, (((((rd_T36 l0_3 x8_1).f0) ++ (⟨#[124]⟩ : ByteArray)) ++ ((rd_T36 l0_3 x8_1).f1)) ++ (⟨#[124]⟩ : ByteArray)) ++ t330⟩ : S26))
                 (case aB => exact z16_)
                 (case aF => exact (fun _ _ => trivial))
                 (case aO => exact z49_)
                 (case aS => exact (below_size z16_))
                 (case aL => have := LMc37.out; omega)
                 intro v332 w49 ho hb hg hat
                 rw [← Ny331.out] at ho
                 have n0_ := a_ (blk_grown (g := gb309) (o := .cells #[.int .u64 a0_0, .int .u64 a0_1, .string a0_2, .slice (some ad322) l0_3.length c0_3] 39 (0, 0)) z60_ hg (Kd.R_ne HO_7.out BK309.out (by decide)))
                 have n1_ := a_ (blk_grown (g := gb323) (o := .cells #[.string ((rd_T36 l0_3 x8_1).f0), .string ((rd_T36 l0_3 x8_1).f1), .int .i64 ((rd_T36 l0_3 x8_1).f2)] 36 (0, 0)) z61_ hg (Kd.R_ne HO_7.out BK323.out (by decide)))
                 have n2_ := a_ (Kd.R_over' z39_ (Kd.R_typed z49_) (by decide) hg)
                 have n3_ := a_ (hb)
                 have n4_ := a_ (ho)
                 clear BK309
                 clear BK323
                 clear HO327
                 clear HB
                 clear HO_7
                 have BK309 := n0_
                 have BK323 := n1_
                 have HO327 := n2_
                 have HB := n3_
                 have HO333 := n4_
                 clear n0_ n1_ n2_ n3_ n4_
                 clear ho hb hg hat
                 refine hK.out _ _ ⟨(blk_cell BK323.out 0).trans rfl, (blk_cell BK323.out 1).trans rfl, (blk_cell BK323.out 2).trans rfl⟩ (fun hHeld => ?_)
                 clear hK K
                 refine norm_ (a' := ?_) ?_ ?_
                 rotate_left
                 ·show Act.put _ (some 80) _ = _
                  simp only [Act.put, sT_, s0_, sS_, i64_w, i32_w]
                  rfl
                 refine pure_ (i := 16) (N := some 7) (v := ?_) (a' := ?_) (fl_ 17 131071) rfl rfl (any_of HT_.out z74_) (fun _ _ _ h => h) (Or.inl ⟨by rfl, ?_⟩) ?_ ?_
                 rotate_left
                 ·intro w'
                  go_simp
                  with_reducible rfl
                 rotate_left
                 ·simp only [Act.put, sT_, s0_, sS_, i64_w, i32_w]
                  rfl
                 refine done_ (done_of HT_.out z74_) ?_
                 try go_wp2
                 go_roundg k1
                 case measure => have := HK1.out; omega
                 case rel => exact ⟨(y331), (wrap64 (x8_1 + 1)), z71_, H', ⟨z73_⟩, ⟨by (with_reducible repeat (first | apply Kd.R_alloc | apply Kd.R_drewN | apply Kd.R_drew)); exact HO333.out⟩, ⟨z60_⟩, ⟨z16_⟩⟩
                ·rw [if_neg c37] at H
                 exact absurd H (by simp)
               ·rw [if_neg c36] at H
                exact absurd H (by simp)
              ·rw [if_neg c34] at H
               exact absurd H (by simp)
             ·rw [if_neg c33] at H
              exact absurd H (by simp)
            ·rw [if_neg c32] at H
             exact absurd H (by simp)
           ·rw [if_neg c30] at H
            exact absurd H (by simp)
          ·rw [if_neg c29] at H
           exact absurd H (by simp)
         ·rw [if_neg c27] at H
          exact absurd H (by simp)
        ·rw [if_neg c26] at H
         have c26b0 : decide (x8_1 < (l0_3.length : Int)) = false := decide_eq_false c26
         clear c26
         simp only [Option.some.injEq, Prod.mk.injEq] at H
         obtain ⟨rfl, rfl⟩ := H
         have hcz50_0 : wr.cell? ⟨gb309, 0, none⟩ = some (.int .u64 a0_0) := (blk_cell BK309.out 0).trans rfl
         have hcz50_1 : wr.cell? ⟨gb309, 1, none⟩ = some (.int .u64 a0_1) := (blk_cell BK309.out 1).trans rfl
         have hcz50_2 : wr.cell? ⟨gb309, 2, none⟩ = some (.string a0_2) := (blk_cell BK309.out 2).trans rfl
         have hcz50_3 : wr.cell? ⟨gb309, 3, none⟩ = some (.slice A0_3 l0_3.length c0_3) := (blk_cell BK309.out 3).trans rfl
         have hfz50_0 := blk_frozen BK309.out 0
         have hfz50_1 := blk_frozen BK309.out 1
         have hfz50_2 := blk_frozen BK309.out 2
         have hfz50_3 := blk_frozen BK309.out 3
         go_wp2
         go_ret2
         exact ⟨_, z64_, z49_, z28_⟩
     ·rw [if_neg c11] at H
      exact absurd H (by simp)
    ·rw [if_neg c9] at H
     exact absurd H (by simp)
   ·rw [if_neg c8] at H
    exact absurd H (by simp)
  ·rw [if_neg c7] at H
   exact absurd H (by simp)
 ·rw [if_neg c3] at H
  have c3b0 : (t310 == 0) = false := beq_eq_false_iff_ne.mpr c3
  have c3b1 : (t310 != 0) = true := bne_iff_ne.mpr c3
  simp only [Option.some.injEq, Prod.mk.injEq] at H
  obtain ⟨rfl, rfl⟩ := H
  go_enter Tryz.func15, Tryz.ntmps15
  go_wp2_with (first | ((with_reducible refine gate_dst (N := 1) rfl ?_); refine box_event ?hg (N := 1) ?hd (cs := #[.int .u64 a0_0, .int .u64 a0_1, .string a0_2, .slice A0_3 l0_3.length c0_3]) (t := 39) ?hr ?_; (case hd => rfl); (case hg => rfl); (case hr => first | (go_simp; done) | (go_simp; rfl)); intro gb309 hg w51 hbox hb; have n0_ := a_ (below_step z33_ hb); have n1_ := a_ (hbox); have n2_ := a_ ((z20_ : w.heap.size ≤ gb309)); have n3_ := a_ ((z20_ : w.heap.size ≤ gb309)); clear HB; have HB := n0_; have BK309 := n1_; have GW309 := n2_; have GE309 := n3_; clear n0_ n1_ n2_ n3_; clear hb hbox hg; have hcz52_0 : w51.cell? ⟨gb309, 0, none⟩ = some (.int .u64 a0_0) := (blk_cell BK309.out 0).trans rfl; have hcz52_1 : w51.cell? ⟨gb309, 1, none⟩ = some (.int .u64 a0_1) := (blk_cell BK309.out 1).trans rfl; have hcz52_2 : w51.cell? ⟨gb309, 2, none⟩ = some (.string a0_2) := (blk_cell BK309.out 2).trans rfl; have hcz52_3 : w51.cell? ⟨gb309, 3, none⟩ = some (.slice A0_3 l0_3.length c0_3) := (blk_cell BK309.out 3).trans rfl; have hfz52_0 := blk_frozen BK309.out 0; have hfz52_1 := blk_frozen BK309.out 1; have hfz52_2 := blk_frozen BK309.out 2; have hfz52_3 := blk_frozen BK309.out 3) | ((with_reducible refine gate_callee (f := 34) rfl ?_); refine goesL_ (some 14) rfl rfl Tryz.func34 z74_ rfl #[.agg #[.int .u64 a0_0, .int .u64 a0_1, .string a0_2, .slice A0_3 l0_3.length c0_3]] rfl z19_ ?_; (with_reducible refine (cambistref12_Check.calls k a0_0 a0_1 a0_2 _ _ l0_3 t310 _ ?side1 ?side2 ?side3 A2.out).mono ?_); (case side1 => exact Glob.below HG.out z28_); (case side2 => repeat (first | exact (Kd.C_below HR0_3.out HB.out) | (with_reducible refine Kd.C_alloc ?_ _) | (with_reducible refine Kd.C_drewN ?_ _) | (with_reducible refine Kd.C_drew ?_))); (case side3 => exact HC0_3.out); rintro e w53 ⟨rfl, hb⟩; refine ⟨_, rfl, ?_⟩; have n0_ := a_ (blk_below (g := gb309) (o := .cells #[.int .u64 a0_0, .int .u64 a0_1, .string a0_2, .slice A0_3 l0_3.length c0_3] 39 (0, 0)) z60_ hb); have n1_ := a_ (below_step z28_ hb); clear BK309; clear HB; have BK309 := n0_; have HB := n1_; clear n0_ n1_; (try clear hb); (try clear hb2); (try clear hk); (try clear hi)))
  go_ret2
  exact ⟨_, z64_, z18_, z28_⟩

/-! ### cambistref12_same: function 16 -/
def cambistref12_same.l0 : Nat → List (S26) → List (S26) → Int → Option (Bool)
 | 0, _, _, _ => none
 | k + 1, x0, x1, x5 => if x5 < (x0.length : Int) then (if 0 ≤ x5 then (if x5 < (x1.length : Int) then (if (!((((rd_T26 x0 x5).f0).toList) == (((rd_T26 x1 x5).f0).toList)) || (!((((rd_T26 x0 x5).f1).toList) == (((rd_T26 x1 x5).f1).toList)))) = true then (some false) else (cambistref12_same.l0 k x0 x1 (wrap64 (x5 + 1)))) else (none)) else (none)) else (some true)
def cambistref12_same.f (k : Nat) (l0 : List (S26)) (l1 : List (S26)) : Option (Bool) := if (l0.length : Int) = (l1.length : Int) then (cambistref12_same.l0 k l0 l1 0) else (some false)
theorem cambistref12_same.mono_l : ∀ k, (∀ y0 y1 y2, LeO (cambistref12_same.l0 k y0 y1 y2) (cambistref12_same.l0 (k + 1) y0 y1 y2))
 | 0 => fun _ _ _ r h => by simp [cambistref12_same.l0] at h
 | k + 1 => by
  have ih0 := cambistref12_same.mono_l k
  ·intro y0 y1 y2
   unfold cambistref12_same.l0
   repeat' first
   | (with_reducible exact ih0 _ _ _)
   | (with_reducible first | exact LeO.refl _ | exact LeO.none _ | refine LeO.ite ?_ ?_ | refine LeO.bind ?_ fun _ => ?_)
   | exact ih0 _ _ _
theorem cambistref12_same.mono : ∀ a0 a1 k, LeO (cambistref12_same.f k a0 a1) (cambistref12_same.f (k + 1) a0 a1) := by
 intro a0 a1 k
 have ih0 := cambistref12_same.mono_l k
 unfold cambistref12_same.f
 repeat' first
   | (with_reducible exact ih0 _ _ _)
   | (with_reducible first | exact LeO.refl _ | exact LeO.none _ | refine LeO.ite ?_ ?_ | refine LeO.bind ?_ fun _ => ?_)
   | exact ih0 _ _ _
set_option maxHeartbeats 8000000 in
set_option maxRecDepth 100000 in
theorem cambistref12_same.calls (k : Nat) (A0 : Option Addr) (c0 : Nat) (l0 : List (S26)) (A1 : Option Addr) (c1 : Nat) (l1 : List (S26)) (r : Bool) (w : World) (hG : Glob w) (hr0 : Kd.C k26 w A0 l0.length l0) (hc0 : l0.length ≤ c0) (hr1 : Kd.C k26 w A1 l1.length l1) (hc1 : l1.length ≤ c1) (h : cambistref12_same.f k l0 l1 = some r) :
  Calls Tryz.prog 16 #[.slice A0 l0.length c0, .slice A1 l1.length c1] w fun e w' => e = .returned (.bool r) ∧ Drawn0 w w' := by
 have hu26 := Tryz.underlying26
 have HG := a_ hG
 clear hG
 have HR0 := a_ hr0
 have HC0 := a_ hc0
 clear hr0 hc0
 have HR1 := a_ hr1
 have HC1 := a_ hc1
 clear hr1 hc1
 have H : (if (l0.length : Int) = (l1.length : Int) then (cambistref12_same.l0 k l0 l1 0) else (some false)) = some r := h
 clear h
 by_cases c3 : (l0.length : Int) = (l1.length : Int)
 ·rw [if_pos c3] at H
  have c3b0 : ((l0.length : Int) == (l1.length : Int)) = true := beq_iff_eq.mpr c3
  have c3b1 : ((l0.length : Int) != (l1.length : Int)) = false := bne_eq_false_iff_eq.mpr c3
  have c3b2 : (l0.length == l1.length) = true := by first | simpa using c3 | (simp at c3 ⊢; omega)
  clear c3
  have H' := a_ H
  clear H
  go_enter Tryz.func16, Tryz.ntmps16
  go_wp2
  repeat (go_quiet (fail); try go_wp2)
  go_loopg [5] k (fun kq v5 w' => ∃ (x5_1 : Int), v5 = .int .i64 x5_1 ∧ Aside0 (cambistref12_same.l0 kq l0 l1 x5_1 = some r) ∧ Aside0 (kq ≤ k) ∧ Drawn0 w w')
  case atStart => exact ⟨(0), z71_, H', ⟨Nat.le_refl _⟩, z67_⟩
  case round =>
   clear H'
   try clear c1
   try clear p2
   try clear c3
   try clear c3b0
   try clear c3b1
   try clear c3b2
   obtain ⟨x5_1, rfl, HA, HK1, ⟨m1, rfl⟩⟩ := hrel
   cases gk with
   | zero => exact absurd HA.out (by simp [cambistref12_same.l0])
   | succ k1 =>
    have H := HA.out
    clear HA
    simp only [cambistref12_same.l0] at H
    by_cases c4 : x5_1 < (l0.length : Int)
    ·rw [if_pos c4] at H
     have c4b0 : decide (x5_1 < (l0.length : Int)) = true := decide_eq_true c4
     clear c4
     by_cases c5 : 0 ≤ x5_1
     ·rw [if_pos c5] at H
      have c5b0 : decide (0 ≤ x5_1) = true := decide_eq_true c5
      clear c5
      by_cases c6 : x5_1 < (l1.length : Int)
      ·rw [if_pos c6] at H
       have c6b0 : decide (x5_1 < (l1.length : Int)) = true := decide_eq_true c6
       clear c6
       by_cases c7 : (!((((rd_T26 l0 x5_1).f0).toList) == (((rd_T26 l1 x5_1).f0).toList)) || (!((((rd_T26 l0 x5_1).f1).toList) == (((rd_T26 l1 x5_1).f1).toList)))) = true
       ·rw [if_pos c7] at H
        have c7b0 : (!((((rd_T26 l0 x5_1).f0).toList) == (((rd_T26 l1 x5_1).f0).toList)) || (!((((rd_T26 l0 x5_1).f1).toList) == (((rd_T26 l1 x5_1).f1).toList)))) = true := c7
        clear c7
        obtain rfl := Option.some.inj H
        have p334 : 0 ≤ (x5_1 : Int) := of_decide_eq_true z70_
        have q334 : x5_1 < (l0.length : Int) := of_decide_eq_true z70_
        obtain ⟨ad334, e334, hx334_0, hx334_1⟩ := at_T26 HR0.out x5_1 p334 q334
        cases e334
        replace p334 := eq_true p334
        replace q334 := eq_true q334
        have p335 : 0 ≤ (x5_1 : Int) := of_decide_eq_true z70_
        have q335 : x5_1 < (l1.length : Int) := of_decide_eq_true z70_
        obtain ⟨ad335, e335, hx335_0, hx335_1⟩ := at_T26 HR1.out x5_1 p335 q335
        cases e335
        replace p335 := eq_true p335
        replace q335 := eq_true q335
        go_wp2
        repeat (go_quiet (fail); try go_wp2)
        go_ret
        exact ⟨z71_, z67_⟩
       ·rw [if_neg c7] at H
        have c7b0 : (!((((rd_T26 l0 x5_1).f0).toList) == (((rd_T26 l1 x5_1).f0).toList)) || (!((((rd_T26 l0 x5_1).f1).toList) == (((rd_T26 l1 x5_1).f1).toList)))) = false := by simpa using c7
        clear c7
        have H' := a_ H
        clear H
        have p334 : 0 ≤ (x5_1 : Int) := of_decide_eq_true z70_
        have q334 : x5_1 < (l0.length : Int) := of_decide_eq_true z70_
        obtain ⟨ad334, e334, hx334_0, hx334_1⟩ := at_T26 HR0.out x5_1 p334 q334
        cases e334
        replace p334 := eq_true p334
        replace q334 := eq_true q334
        have p335 : 0 ≤ (x5_1 : Int) := of_decide_eq_true z70_
        have q335 : x5_1 < (l1.length : Int) := of_decide_eq_true z70_
        obtain ⟨ad335, e335, hx335_0, hx335_1⟩ := at_T26 HR1.out x5_1 p335 q335
        cases e335
        replace p335 := eq_true p335
        replace q335 := eq_true q335
        go_wp2
        repeat (go_quiet (fail); try go_wp2)
        go_roundg k1
        case measure => have := HK1.out; omega
        case rel => exact ⟨(wrap64 (x5_1 + 1)), z71_, H', ⟨z73_⟩, z67_⟩
      ·rw [if_neg c6] at H
       exact absurd H (by simp)
     ·rw [if_neg c5] at H
      exact absurd H (by simp)
    ·rw [if_neg c4] at H
     have c4b0 : decide (x5_1 < (l0.length : Int)) = false := decide_eq_false c4
     clear c4
     obtain rfl := Option.some.inj H
     go_wp2
     repeat (go_quiet (fail); try go_wp2)
     go_ret
     exact ⟨z71_, z67_⟩
 ·rw [if_neg c3] at H
  have c3b0 : ((l0.length : Int) == (l1.length : Int)) = false := beq_eq_false_iff_ne.mpr c3
  have c3b1 : ((l0.length : Int) != (l1.length : Int)) = true := bne_iff_ne.mpr c3
  have c3b2 : (l0.length == l1.length) = false := by first | simpa using c3 | (simp at c3 ⊢; omega)
  obtain rfl := Option.some.inj H
  go_enter Tryz.func16, Tryz.ntmps16
  go_wp2
  repeat (go_quiet (fail); try go_wp2)
  go_ret
  exact ⟨z71_, z67_⟩

end Go.Proofs.YtjlifcbddednaaaGreatDoor.P
