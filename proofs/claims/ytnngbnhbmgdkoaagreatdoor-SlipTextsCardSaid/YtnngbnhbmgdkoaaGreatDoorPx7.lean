-- Laid by wip/tools/cprint.py of this claim's own repo (over the kit's print).
import Derived.Test.YtnngbnhbmgdkoaaGreatDoorSq
import Derived.Test.YtnngbnhbmgdkoaaGreatDoorPx0
import Derived.Test.YtnngbnhbmgdkoaaGreatDoorPx6
namespace Go.Proofs.YtnngbnhbmgdkoaaGreatDoor.P
open Go.RowKit Go.Proofs.YtnngbnhbmgdkoaaGreatDoor.E Go.Proofs.YtnngbnhbmgdkoaaGreatDoorW.PrintWords Go.Proofs.YtnngbnhbmgdkoaaGreatDoorW.PrintLast
set_option linter.unusedVariables false
set_option linter.unusedSimpArgs false

/-! ### cambistref19_Text: function 7 -/
def cambistref19_Text.l0 : Nat → ByteArray → Int → ByteArray → ByteArray → Int → Int → List (S37) → Int → Option (ByteArray × Int)
 | 0, _, _, _, _, _, _, _, _ => none
 | k + 1, x4, x5, x215000, x215001, x215002, x215003, x215004, x215005 => if x5 < (x215004.length : Int) then (if 0 ≤ x5 then (if x4.size + 5 ≤ 9223372036854775807 then ((cambistref19_Decimal.f k ((rd_T37 x215004 x5).f0)).bind fun t220 => (if (x4 ++ (⟨#[80, 79, 83, 84, 32]⟩ : ByteArray)).size + t220.size ≤ 9223372036854775807 then (if ((x4 ++ (⟨#[80, 79, 83, 84, 32]⟩ : ByteArray)) ++ t220).size + 1 ≤ 9223372036854775807 then (if (((x4 ++ (⟨#[80, 79, 83, 84, 32]⟩ : ByteArray)) ++ t220) ++ (⟨#[32]⟩ : ByteArray)).size + ((rd_T37 x215004 x5).f1).size ≤ 9223372036854775807 then (if ((((x4 ++ (⟨#[80, 79, 83, 84, 32]⟩ : ByteArray)) ++ t220) ++ (⟨#[32]⟩ : ByteArray)) ++ ((rd_T37 x215004 x5).f1)).size + 1 ≤ 9223372036854775807 then ((cambistref01_Text.f k ((rd_T37 x215004 x5).f2)).bind fun t221 => (if (((((x4 ++ (⟨#[80, 79, 83, 84, 32]⟩ : ByteArray)) ++ t220) ++ (⟨#[32]⟩ : ByteArray)) ++ ((rd_T37 x215004 x5).f1)) ++ (⟨#[32]⟩ : ByteArray)).size + t221.size ≤ 9223372036854775807 then (if ((((((x4 ++ (⟨#[80, 79, 83, 84, 32]⟩ : ByteArray)) ++ t220) ++ (⟨#[32]⟩ : ByteArray)) ++ ((rd_T37 x215004 x5).f1)) ++ (⟨#[32]⟩ : ByteArray)) ++ t221).size + 1 ≤ 9223372036854775807 then (cambistref19_Text.l0 k (((((((x4 ++ (⟨#[80, 79, 83, 84, 32]⟩ : ByteArray)) ++ t220) ++ (⟨#[32]⟩ : ByteArray)) ++ ((rd_T37 x215004 x5).f1)) ++ (⟨#[32]⟩ : ByteArray)) ++ t221) ++ (⟨#[10]⟩ : ByteArray)) (wrap64 (x5 + 1)) x215000 x215001 x215002 x215003 x215004 x215005) else (none)) else (none))) else (none)) else (none)) else (none)) else (none))) else (none)) else (none)) else (if x4.size + 6 ≤ 9223372036854775807 then ((cambistref01_Text.f k x215005).bind fun t222 => (if (x4 ++ (⟨#[67, 76, 79, 83, 69, 32]⟩ : ByteArray)).size + t222.size ≤ 9223372036854775807 then (if ((x4 ++ (⟨#[67, 76, 79, 83, 69, 32]⟩ : ByteArray)) ++ t222).size + 1 ≤ 9223372036854775807 then (some (((x4 ++ (⟨#[67, 76, 79, 83, 69, 32]⟩ : ByteArray)) ++ t222) ++ (⟨#[10]⟩ : ByteArray), 0)) else (none)) else (none))) else (none))
def cambistref19_Text.f (k : Nat) (a0_0 : ByteArray) (a0_1 : ByteArray) (a0_2 : Int) (a0_3 : Int) (l0_4 : List (S37)) (a0_5 : Int) : Option (ByteArray × Int) := (cambistref19_Check.f k a0_0 a0_1 a0_2 a0_3 l0_4 a0_5).bind fun t215 => (if t215 = 0 then (if 10 + a0_0.size ≤ 9223372036854775807 then (if ((⟨#[83, 84, 65, 84, 69, 77, 69, 78, 84, 32]⟩ : ByteArray) ++ a0_0).size + 1 ≤ 9223372036854775807 then (if (((⟨#[83, 84, 65, 84, 69, 77, 69, 78, 84, 32]⟩ : ByteArray) ++ a0_0) ++ (⟨#[32]⟩ : ByteArray)).size + a0_1.size ≤ 9223372036854775807 then (if ((((⟨#[83, 84, 65, 84, 69, 77, 69, 78, 84, 32]⟩ : ByteArray) ++ a0_0) ++ (⟨#[32]⟩ : ByteArray)) ++ a0_1).size + 1 ≤ 9223372036854775807 then ((cambistref19_Decimal.f k a0_2).bind fun t216 => (if (((((⟨#[83, 84, 65, 84, 69, 77, 69, 78, 84, 32]⟩ : ByteArray) ++ a0_0) ++ (⟨#[32]⟩ : ByteArray)) ++ a0_1) ++ (⟨#[32]⟩ : ByteArray)).size + t216.size ≤ 9223372036854775807 then (if ((((((⟨#[83, 84, 65, 84, 69, 77, 69, 78, 84, 32]⟩ : ByteArray) ++ a0_0) ++ (⟨#[32]⟩ : ByteArray)) ++ a0_1) ++ (⟨#[32]⟩ : ByteArray)) ++ t216).size + 6 ≤ 9223372036854775807 then ((cambistref01_Text.f k a0_3).bind fun t217 => (if (((((((⟨#[83, 84, 65, 84, 69, 77, 69, 78, 84, 32]⟩ : ByteArray) ++ a0_0) ++ (⟨#[32]⟩ : ByteArray)) ++ a0_1) ++ (⟨#[32]⟩ : ByteArray)) ++ t216) ++ (⟨#[10, 79, 80, 69, 78, 32]⟩ : ByteArray)).size + t217.size ≤ 9223372036854775807 then (if ((((((((⟨#[83, 84, 65, 84, 69, 77, 69, 78, 84, 32]⟩ : ByteArray) ++ a0_0) ++ (⟨#[32]⟩ : ByteArray)) ++ a0_1) ++ (⟨#[32]⟩ : ByteArray)) ++ t216) ++ (⟨#[10, 79, 80, 69, 78, 32]⟩ : ByteArray)) ++ t217).size + 1 ≤ 9223372036854775807 then (cambistref19_Text.l0 k (((((((((⟨#[83, 84, 65, 84, 69, 77, 69, 78, 84, 32]⟩ : ByteArray) ++ a0_0) ++ (⟨#[32]⟩ : ByteArray)) ++ a0_1) ++ (⟨#[32]⟩ : ByteArray)) ++ t216) ++ (⟨#[10, 79, 80, 69, 78, 32]⟩ : ByteArray)) ++ t217) ++ (⟨#[10]⟩ : ByteArray)) 0 a0_0 a0_1 a0_2 a0_3 l0_4 a0_5) else (none)) else (none))) else (none)) else (none))) else (none)) else (none)) else (none)) else (none)) else (some ((⟨#[]⟩ : ByteArray), 190)))
theorem cambistref19_Text.mono_l : ∀ k, (∀ y0 y1 y2 y3 y4 y5 y6 y7, LeO (cambistref19_Text.l0 k y0 y1 y2 y3 y4 y5 y6 y7) (cambistref19_Text.l0 (k + 1) y0 y1 y2 y3 y4 y5 y6 y7))
 | 0 => fun _ _ _ _ _ _ _ _ r h => by simp [cambistref19_Text.l0] at h
 | k + 1 => by
  have ih0 := cambistref19_Text.mono_l k
  ·intro y0 y1 y2 y3 y4 y5 y6 y7
   unfold cambistref19_Text.l0
   repeat' first
   | (with_reducible exact ih0 _ _ _ _ _ _ _ _)
   | (with_reducible exact cambistref01_Text.mono _ _)
   | (with_reducible exact cambistref19_Check.mono _ _ _ _ _ _ _)
   | (with_reducible exact cambistref19_Decimal.mono _ _)
   | (with_reducible first | exact LeO.refl _ | exact LeO.none _ | refine LeO.ite ?_ ?_ | refine LeO.bind ?_ fun _ => ?_)
   | exact ih0 _ _ _ _ _ _ _ _
   | exact cambistref01_Text.mono _ _
   | exact cambistref19_Check.mono _ _ _ _ _ _ _
   | exact cambistref19_Decimal.mono _ _
theorem cambistref19_Text.mono : ∀ a0 a1 a2 a3 a4 a5 k, LeO (cambistref19_Text.f k a0 a1 a2 a3 a4 a5) (cambistref19_Text.f (k + 1) a0 a1 a2 a3 a4 a5) := by
 intro a0 a1 a2 a3 a4 a5 k
 have ih0 := cambistref19_Text.mono_l k
 unfold cambistref19_Text.f
 repeat' first
   | (with_reducible exact ih0 _ _ _ _ _ _ _ _)
   | (with_reducible exact cambistref01_Text.mono _ _)
   | (with_reducible exact cambistref19_Check.mono _ _ _ _ _ _ _)
   | (with_reducible exact cambistref19_Decimal.mono _ _)
   | (with_reducible first | exact LeO.refl _ | exact LeO.none _ | refine LeO.ite ?_ ?_ | refine LeO.bind ?_ fun _ => ?_)
   | exact ih0 _ _ _ _ _ _ _ _
   | exact cambistref01_Text.mono _ _
   | exact cambistref19_Check.mono _ _ _ _ _ _ _
   | exact cambistref19_Decimal.mono _ _
def cambistref19_Text.T3 : Bool × List (List Nat × List Nat) := (true, [([], []), ([0], [0]), ([1], [1]), ([2], [2]), ([], []), ([4], [4]), ([3, 5], [3, 5]), ([6], [6]), ([], []), ([8], [8]), ([9], [9]), ([7, 10], [7, 10]), ([11], [11]), ([], []), ([13], [13]), ([14, 10], [14]), ([12, 15], [12, 15]), ([16], [16]), ([17, 15, 0, 1, 2, 3, 4, 5, 6, 7, 8, 9, 10, 11, 12, 13, 14, 15, 16, 17], [17])])
def cambistref19_Text.B3 : List Nat := [0, 1, 3, 7, 0, 16, 63, 127, 0, 256, 768, 2047, 4095, 0, 8192, 26368, 65535, 131071, 262143]
theorem cambistref19_Text.tab3 : rtab .any (opsOf Tryz.f7 3) = cambistref19_Text.T3 := by kernel_rfl
theorem cambistref19_Text.bits3 : waitsOk cambistref19_Text.T3.2 cambistref19_Text.B3 = true := by kernel_rfl
def cambistref19_Text.T8 : Bool × List (List Nat × List Nat) := (true, [([], []), ([0], [0]), ([], []), ([2], [2]), ([3], [3]), ([1, 4], [1, 4]), ([5], [5]), ([], []), ([7], [7]), ([6, 8], [6, 8]), ([9], [9]), ([], []), ([11], [11]), ([12, 4], [12]), ([10, 13], [10, 13]), ([14], [14]), ([15, 13, 0, 1, 2, 3, 4, 5, 6, 7, 8, 9, 10, 11, 12, 13, 14, 15], [0, 15])])
def cambistref19_Text.B8 : List Nat := [0, 1, 0, 4, 12, 31, 63, 0, 128, 511, 1023, 0, 2048, 6172, 16383, 32767, 65535]
theorem cambistref19_Text.tab8 : rtab .any (opsOf Tryz.f7 8) = cambistref19_Text.T8 := by kernel_rfl
theorem cambistref19_Text.bits8 : waitsOk cambistref19_Text.T8.2 cambistref19_Text.B8 = true := by kernel_rfl
set_option maxHeartbeats 8000000 in
set_option maxRecDepth 100000 in
theorem cambistref19_Text.calls (k : Nat) (a0_0 : ByteArray) (a0_1 : ByteArray) (a0_2 : Int) (a0_3 : Int) (A0_4 : Option Addr) (c0_4 : Nat) (l0_4 : List (S37)) (a0_5 : Int) (r1 : ByteArray) (r2 : Int) (w : World) (hG : Glob w) (hr0_4 : Kd.C k37 w A0_4 l0_4.length l0_4) (hc0_4 : l0_4.length ≤ c0_4) (h : cambistref19_Text.f k a0_0 a0_1 a0_2 a0_3 l0_4 a0_5 = some (r1, r2)) :
  Calls Tryz.prog 7 #[.agg #[.string a0_0, .string a0_1, .int .u64 a0_2, .int .i64 a0_3, .slice A0_4 l0_4.length c0_4, .int .i64 a0_5]] w fun e w' => e = .returned (.tuple #[.string r1, .int .i64 r2]) ∧ Below w.heap.size w w' := by
 have hu25 := Tryz.underlying25
 have hu37 := Tryz.underlying37
 have HG := a_ hG
 clear hG
 have HR0_4 := a_ hr0_4
 have HC0_4 := a_ hc0_4
 clear hr0_4 hc0_4
 have HB := a_ (Below.refl w.heap.size w)
 have H : ((cambistref19_Check.f k a0_0 a0_1 a0_2 a0_3 l0_4 a0_5).bind fun t215 => (if t215 = 0 then (if 10 + a0_0.size ≤ 9223372036854775807 then (if ((⟨#[83, 84, 65, 84, 69, 77, 69, 78, 84, 32]⟩ : ByteArray) ++ a0_0).size + 1 ≤ 9223372036854775807 then (if (((⟨#[83, 84, 65, 84, 69, 77, 69, 78, 84, 32]⟩ : ByteArray) ++ a0_0) ++ (⟨#[32]⟩ : ByteArray)).size + a0_1.size ≤ 9223372036854775807 then (if ((((⟨#[83, 84, 65, 84, 69, 77, 69, 78, 84, 32]⟩ : ByteArray) ++ a0_0) ++ (⟨#[32]⟩ : ByteArray)) ++ a0_1).size + 1 ≤ 9223372036854775807 then ((cambistref19_Decimal.f k a0_2).bind fun t216 => (if (((((⟨#[83, 84, 65, 84, 69, 77, 69, 78, 84, 32]⟩ : ByteArray) ++ a0_0) ++ (⟨#[32]⟩ : ByteArray)) ++ a0_1) ++ (⟨#[32]⟩ : ByteArray)).size + t216.size ≤ 9223372036854775807 then (if ((((((⟨#[83, 84, 65, 84, 69, 77, 69, 78, 84, 32]⟩ : ByteArray) ++ a0_0) ++ (⟨#[32]⟩ : ByteArray)) ++ a0_1) ++ (⟨#[32]⟩ : ByteArray)) ++ t216).size + 6 ≤ 9223372036854775807 then ((cambistref01_Text.f k a0_3).bind fun t217 => (if (((((((⟨#[83, 84, 65, 84, 69, 77, 69, 78, 84, 32]⟩ : ByteArray) ++ a0_0) ++ (⟨#[32]⟩ : ByteArray)) ++ a0_1) ++ (⟨#[32]⟩ : ByteArray)) ++ t216) ++ (⟨#[10, 79, 80, 69, 78, 32]⟩ : ByteArray)).size + t217.size ≤ 9223372036854775807 then (if ((((((((⟨#[83, 84, 65, 84, 69, 77, 69, 78, 84, 32]⟩ : ByteArray) ++ a0_0) ++ (⟨#[32]⟩ : ByteArray)) ++ a0_1) ++ (⟨#[32]⟩ : ByteArray)) ++ t216) ++ (⟨#[10, 79, 80, 69, 78, 32]⟩ : ByteArray)) ++ t217).size + 1 ≤ 9223372036854775807 then (cambistref19_Text.l0 k (((((((((⟨#[83, 84, 65, 84, 69, 77, 69, 78, 84, 32]⟩ : ByteArray) ++ a0_0) ++ (⟨#[32]⟩ : ByteArray)) ++ a0_1) ++ (⟨#[32]⟩ : ByteArray)) ++ t216) ++ (⟨#[10, 79, 80, 69, 78, 32]⟩ : ByteArray)) ++ t217) ++ (⟨#[10]⟩ : ByteArray)) 0 a0_0 a0_1 a0_2 a0_3 l0_4 a0_5) else (none)) else (none))) else (none)) else (none))) else (none)) else (none)) else (none)) else (none)) else (some ((⟨#[]⟩ : ByteArray), 190)))) = some (r1, r2) := h
 clear h
 replace H := Option.bind_eq_some_iff.mp H
 obtain ⟨t215, A20, H⟩ := H
 replace H : (if t215 = 0 then (if 10 + a0_0.size ≤ 9223372036854775807 then (if ((⟨#[83, 84, 65, 84, 69, 77, 69, 78, 84, 32]⟩ : ByteArray) ++ a0_0).size + 1 ≤ 9223372036854775807 then (if (((⟨#[83, 84, 65, 84, 69, 77, 69, 78, 84, 32]⟩ : ByteArray) ++ a0_0) ++ (⟨#[32]⟩ : ByteArray)).size + a0_1.size ≤ 9223372036854775807 then (if ((((⟨#[83, 84, 65, 84, 69, 77, 69, 78, 84, 32]⟩ : ByteArray) ++ a0_0) ++ (⟨#[32]⟩ : ByteArray)) ++ a0_1).size + 1 ≤ 9223372036854775807 then ((cambistref19_Decimal.f k a0_2).bind fun t216 => (if (((((⟨#[83, 84, 65, 84, 69, 77, 69, 78, 84, 32]⟩ : ByteArray) ++ a0_0) ++ (⟨#[32]⟩ : ByteArray)) ++ a0_1) ++ (⟨#[32]⟩ : ByteArray)).size + t216.size ≤ 9223372036854775807 then (if ((((((⟨#[83, 84, 65, 84, 69, 77, 69, 78, 84, 32]⟩ : ByteArray) ++ a0_0) ++ (⟨#[32]⟩ : ByteArray)) ++ a0_1) ++ (⟨#[32]⟩ : ByteArray)) ++ t216).size + 6 ≤ 9223372036854775807 then ((cambistref01_Text.f k a0_3).bind fun t217 => (if (((((((⟨#[83, 84, 65, 84, 69, 77, 69, 78, 84, 32]⟩ : ByteArray) ++ a0_0) ++ (⟨#[32]⟩ : ByteArray)) ++ a0_1) ++ (⟨#[32]⟩ : ByteArray)) ++ t216) ++ (⟨#[10, 79, 80, 69, 78, 32]⟩ : ByteArray)).size + t217.size ≤ 9223372036854775807 then (if ((((((((⟨#[83, 84, 65, 84, 69, 77, 69, 78, 84, 32]⟩ : ByteArray) ++ a0_0) ++ (⟨#[32]⟩ : ByteArray)) ++ a0_1) ++ (⟨#[32]⟩ : ByteArray)) ++ t216) ++ (⟨#[10, 79, 80, 69, 78, 32]⟩ : ByteArray)) ++ t217).size + 1 ≤ 9223372036854775807 then (cambistref19_Text.l0 k (((((((((⟨#[83, 84, 65, 84, 69, 77, 69, 78, 84, 32]⟩ : ByteArray) ++ a0_0) ++ (⟨#[32]⟩ : ByteArray)) ++ a0_1) ++ (⟨#[32]⟩ : ByteArray)) ++ t216) ++ (⟨#[10, 79, 80, 69, 78, 32]⟩ : ByteArray)) ++ t217) ++ (⟨#[10]⟩ : ByteArray)) 0 a0_0 a0_1 a0_2 a0_3 l0_4 a0_5) else (none)) else (none))) else (none)) else (none))) else (none)) else (none)) else (none)) else (none)) else (some ((⟨#[]⟩ : ByteArray), 190))) = some (r1, r2) := H
 have A2 := a_ A20
 clear A20
 by_cases c3 : t215 = 0
 ·rw [if_pos c3] at H
  have c3b0 : (t215 == 0) = true := beq_iff_eq.mpr c3
  have c3b1 : (t215 != 0) = false := bne_eq_false_iff_eq.mpr c3
  clear c3
  by_cases c4 : 10 + a0_0.size ≤ 9223372036854775807
  ·rw [if_pos c4] at H
   have c4b0 := eq_true c4
   have c4b1 : decide (10 + a0_0.size ≤ 9223372036854775807) = true := decide_eq_true c4
   try have c4b2 : (9223372036854775807 < 10 + a0_0.size) = False := eq_false (Nat.not_lt.2 c4)
   by_cases c5 : ((⟨#[83, 84, 65, 84, 69, 77, 69, 78, 84, 32]⟩ : ByteArray) ++ a0_0).size + 1 ≤ 9223372036854775807
   ·rw [if_pos c5] at H
    have c5b0 := eq_true c5
    have c5b1 : decide (((⟨#[83, 84, 65, 84, 69, 77, 69, 78, 84, 32]⟩ : ByteArray) ++ a0_0).size + 1 ≤ 9223372036854775807) = true := decide_eq_true c5
    try have c5b2 : (9223372036854775807 < ((⟨#[83, 84, 65, 84, 69, 77, 69, 78, 84, 32]⟩ : ByteArray) ++ a0_0).size + 1) = False := eq_false (Nat.not_lt.2 c5)
    try have c5b3 : (9223372036854775807 < 10 + a0_0.size + 1) = False := by have h_ := c5b2; simp only [ByteArray.size_append] at h_; exact h_
    try have c5b4 : (9223372036854775807 < a0_0.size + 11) = False := by have h_ := c5b3; simp only [Nat.add_assoc, Nat.reduceAdd] at h_ ⊢; exact h_
    by_cases c6 : (((⟨#[83, 84, 65, 84, 69, 77, 69, 78, 84, 32]⟩ : ByteArray) ++ a0_0) ++ (⟨#[32]⟩ : ByteArray)).size + a0_1.size ≤ 9223372036854775807
    ·rw [if_pos c6] at H
     have c6b0 := eq_true c6
     have c6b1 : decide ((((⟨#[83, 84, 65, 84, 69, 77, 69, 78, 84, 32]⟩ : ByteArray) ++ a0_0) ++ (⟨#[32]⟩ : ByteArray)).size + a0_1.size ≤ 9223372036854775807) = true := decide_eq_true c6
     try have c6b2 : (9223372036854775807 < (((⟨#[83, 84, 65, 84, 69, 77, 69, 78, 84, 32]⟩ : ByteArray) ++ a0_0) ++ (⟨#[32]⟩ : ByteArray)).size + a0_1.size) = False := eq_false (Nat.not_lt.2 c6)
     try have c6b3 : (9223372036854775807 < 10 + a0_0.size + 1 + a0_1.size) = False := by have h_ := c6b2; simp only [ByteArray.size_append] at h_; exact h_
     try have c6b4 : (9223372036854775807 < a0_0.size + a0_1.size + 11) = False := by have h_ := c6b3; simp only [Nat.add_assoc, Nat.reduceAdd] at h_ ⊢; exact h_
     by_cases c7 : ((((⟨#[83, 84, 65, 84, 69, 77, 69, 78, 84, 32]⟩ : ByteArray) ++ a0_0) ++ (⟨#[32]⟩ : ByteArray)) ++ a0_1).size + 1 ≤ 9223372036854775807
     ·rw [if_pos c7] at H
      have c7b0 := eq_true c7
      have c7b1 : decide (((((⟨#[83, 84, 65, 84, 69, 77, 69, 78, 84, 32]⟩ : ByteArray) ++ a0_0) ++ (⟨#[32]⟩ : ByteArray)) ++ a0_1).size + 1 ≤ 9223372036854775807) = true := decide_eq_true c7
      try have c7b2 : (9223372036854775807 < ((((⟨#[83, 84, 65, 84, 69, 77, 69, 78, 84, 32]⟩ : ByteArray) ++ a0_0) ++ (⟨#[32]⟩ : ByteArray)) ++ a0_1).size + 1) = False := eq_false (Nat.not_lt.2 c7)
      try have c7b3 : (9223372036854775807 < 10 + a0_0.size + 1 + a0_1.size + 1) = False := by have h_ := c7b2; simp only [ByteArray.size_append] at h_; exact h_
      try have c7b4 : (9223372036854775807 < a0_0.size + a0_1.size + 12) = False := by have h_ := c7b3; simp only [Nat.add_assoc, Nat.reduceAdd] at h_ ⊢; exact h_
      replace H := Option.bind_eq_some_iff.mp H
      obtain ⟨t216, A80, H⟩ := H
      replace H : (if (((((⟨#[83, 84, 65, 84, 69, 77, 69, 78, 84, 32]⟩ : ByteArray) ++ a0_0) ++ (⟨#[32]⟩ : ByteArray)) ++ a0_1) ++ (⟨#[32]⟩ : ByteArray)).size + t216.size ≤ 9223372036854775807 then (if ((((((⟨#[83, 84, 65, 84, 69, 77, 69, 78, 84, 32]⟩ : ByteArray) ++ a0_0) ++ (⟨#[32]⟩ : ByteArray)) ++ a0_1) ++ (⟨#[32]⟩ : ByteArray)) ++ t216).size + 6 ≤ 9223372036854775807 then ((cambistref01_Text.f k a0_3).bind fun t217 => (if (((((((⟨#[83, 84, 65, 84, 69, 77, 69, 78, 84, 32]⟩ : ByteArray) ++ a0_0) ++ (⟨#[32]⟩ : ByteArray)) ++ a0_1) ++ (⟨#[32]⟩ : ByteArray)) ++ t216) ++ (⟨#[10, 79, 80, 69, 78, 32]⟩ : ByteArray)).size + t217.size ≤ 9223372036854775807 then (if ((((((((⟨#[83, 84, 65, 84, 69, 77, 69, 78, 84, 32]⟩ : ByteArray) ++ a0_0) ++ (⟨#[32]⟩ : ByteArray)) ++ a0_1) ++ (⟨#[32]⟩ : ByteArray)) ++ t216) ++ (⟨#[10, 79, 80, 69, 78, 32]⟩ : ByteArray)) ++ t217).size + 1 ≤ 9223372036854775807 then (cambistref19_Text.l0 k (((((((((⟨#[83, 84, 65, 84, 69, 77, 69, 78, 84, 32]⟩ : ByteArray) ++ a0_0) ++ (⟨#[32]⟩ : ByteArray)) ++ a0_1) ++ (⟨#[32]⟩ : ByteArray)) ++ t216) ++ (⟨#[10, 79, 80, 69, 78, 32]⟩ : ByteArray)) ++ t217) ++ (⟨#[10]⟩ : ByteArray)) 0 a0_0 a0_1 a0_2 a0_3 l0_4 a0_5) else (none)) else (none))) else (none)) else (none)) = some (r1, r2) := H
      have A8 := a_ A80
      clear A80
      by_cases c9 : (((((⟨#[83, 84, 65, 84, 69, 77, 69, 78, 84, 32]⟩ : ByteArray) ++ a0_0) ++ (⟨#[32]⟩ : ByteArray)) ++ a0_1) ++ (⟨#[32]⟩ : ByteArray)).size + t216.size ≤ 9223372036854775807
      ·rw [if_pos c9] at H
       have c9b0 := eq_true c9
       have c9b1 : decide ((((((⟨#[83, 84, 65, 84, 69, 77, 69, 78, 84, 32]⟩ : ByteArray) ++ a0_0) ++ (⟨#[32]⟩ : ByteArray)) ++ a0_1) ++ (⟨#[32]⟩ : ByteArray)).size + t216.size ≤ 9223372036854775807) = true := decide_eq_true c9
       try have c9b2 : (9223372036854775807 < (((((⟨#[83, 84, 65, 84, 69, 77, 69, 78, 84, 32]⟩ : ByteArray) ++ a0_0) ++ (⟨#[32]⟩ : ByteArray)) ++ a0_1) ++ (⟨#[32]⟩ : ByteArray)).size + t216.size) = False := eq_false (Nat.not_lt.2 c9)
       try have c9b3 : (9223372036854775807 < 10 + a0_0.size + 1 + a0_1.size + 1 + t216.size) = False := by have h_ := c9b2; simp only [ByteArray.size_append] at h_; exact h_
       try have c9b4 : (9223372036854775807 < a0_0.size + a0_1.size + t216.size + 12) = False := by have h_ := c9b3; simp only [Nat.add_assoc, Nat.reduceAdd] at h_ ⊢; exact h_
       by_cases c10 : ((((((⟨#[83, 84, 65, 84, 69, 77, 69, 78, 84, 32]⟩ : ByteArray) ++ a0_0) ++ (⟨#[32]⟩ : ByteArray)) ++ a0_1) ++ (⟨#[32]⟩ : ByteArray)) ++ t216).size + 6 ≤ 9223372036854775807
       ·rw [if_pos c10] at H
        have c10b0 := eq_true c10
        have c10b1 : decide (((((((⟨#[83, 84, 65, 84, 69, 77, 69, 78, 84, 32]⟩ : ByteArray) ++ a0_0) ++ (⟨#[32]⟩ : ByteArray)) ++ a0_1) ++ (⟨#[32]⟩ : ByteArray)) ++ t216).size + 6 ≤ 9223372036854775807) = true := decide_eq_true c10
        try have c10b2 : (9223372036854775807 < ((((((⟨#[83, 84, 65, 84, 69, 77, 69, 78, 84, 32]⟩ : ByteArray) ++ a0_0) ++ (⟨#[32]⟩ : ByteArray)) ++ a0_1) ++ (⟨#[32]⟩ : ByteArray)) ++ t216).size + 6) = False := eq_false (Nat.not_lt.2 c10)
        try have c10b3 : (9223372036854775807 < 10 + a0_0.size + 1 + a0_1.size + 1 + t216.size + 6) = False := by have h_ := c10b2; simp only [ByteArray.size_append] at h_; exact h_
        try have c10b4 : (9223372036854775807 < a0_0.size + a0_1.size + t216.size + 18) = False := by have h_ := c10b3; simp only [Nat.add_assoc, Nat.reduceAdd] at h_ ⊢; exact h_
        replace H := Option.bind_eq_some_iff.mp H
        obtain ⟨t217, A110, H⟩ := H
        replace H : (if (((((((⟨#[83, 84, 65, 84, 69, 77, 69, 78, 84, 32]⟩ : ByteArray) ++ a0_0) ++ (⟨#[32]⟩ : ByteArray)) ++ a0_1) ++ (⟨#[32]⟩ : ByteArray)) ++ t216) ++ (⟨#[10, 79, 80, 69, 78, 32]⟩ : ByteArray)).size + t217.size ≤ 9223372036854775807 then (if ((((((((⟨#[83, 84, 65, 84, 69, 77, 69, 78, 84, 32]⟩ : ByteArray) ++ a0_0) ++ (⟨#[32]⟩ : ByteArray)) ++ a0_1) ++ (⟨#[32]⟩ : ByteArray)) ++ t216) ++ (⟨#[10, 79, 80, 69, 78, 32]⟩ : ByteArray)) ++ t217).size + 1 ≤ 9223372036854775807 then (cambistref19_Text.l0 k (((((((((⟨#[83, 84, 65, 84, 69, 77, 69, 78, 84, 32]⟩ : ByteArray) ++ a0_0) ++ (⟨#[32]⟩ : ByteArray)) ++ a0_1) ++ (⟨#[32]⟩ : ByteArray)) ++ t216) ++ (⟨#[10, 79, 80, 69, 78, 32]⟩ : ByteArray)) ++ t217) ++ (⟨#[10]⟩ : ByteArray)) 0 a0_0 a0_1 a0_2 a0_3 l0_4 a0_5) else (none)) else (none)) = some (r1, r2) := H
        have A11 := a_ A110
        clear A110
        by_cases c12 : (((((((⟨#[83, 84, 65, 84, 69, 77, 69, 78, 84, 32]⟩ : ByteArray) ++ a0_0) ++ (⟨#[32]⟩ : ByteArray)) ++ a0_1) ++ (⟨#[32]⟩ : ByteArray)) ++ t216) ++ (⟨#[10, 79, 80, 69, 78, 32]⟩ : ByteArray)).size + t217.size ≤ 9223372036854775807
        ·rw [if_pos c12] at H
         have c12b0 := eq_true c12
         have c12b1 : decide ((((((((⟨#[83, 84, 65, 84, 69, 77, 69, 78, 84, 32]⟩ : ByteArray) ++ a0_0) ++ (⟨#[32]⟩ : ByteArray)) ++ a0_1) ++ (⟨#[32]⟩ : ByteArray)) ++ t216) ++ (⟨#[10, 79, 80, 69, 78, 32]⟩ : ByteArray)).size + t217.size ≤ 9223372036854775807) = true := decide_eq_true c12
         try have c12b2 : (9223372036854775807 < (((((((⟨#[83, 84, 65, 84, 69, 77, 69, 78, 84, 32]⟩ : ByteArray) ++ a0_0) ++ (⟨#[32]⟩ : ByteArray)) ++ a0_1) ++ (⟨#[32]⟩ : ByteArray)) ++ t216) ++ (⟨#[10, 79, 80, 69, 78, 32]⟩ : ByteArray)).size + t217.size) = False := eq_false (Nat.not_lt.2 c12)
         try have c12b3 : (9223372036854775807 < 10 + a0_0.size + 1 + a0_1.size + 1 + t216.size + 6 + t217.size) = False := by have h_ := c12b2; simp only [ByteArray.size_append] at h_; exact h_
         try have c12b4 : (9223372036854775807 < a0_0.size + a0_1.size + t216.size + t217.size + 18) = False := by have h_ := c12b3; simp only [Nat.add_assoc, Nat.reduceAdd] at h_ ⊢; exact h_
         by_cases c13 : ((((((((⟨#[83, 84, 65, 84, 69, 77, 69, 78, 84, 32]⟩ : ByteArray) ++ a0_0) ++ (⟨#[32]⟩ : ByteArray)) ++ a0_1) ++ (⟨#[32]⟩ : ByteArray)) ++ t216) ++ (⟨#[10, 79, 80, 69, 78, 32]⟩ : ByteArray)) ++ t217).size + 1 ≤ 9223372036854775807
         ·rw [if_pos c13] at H
          have c13b0 := eq_true c13
          have c13b1 : decide (((((((((⟨#[83, 84, 65, 84, 69, 77, 69, 78, 84, 32]⟩ : ByteArray) ++ a0_0) ++ (⟨#[32]⟩ : ByteArray)) ++ a0_1) ++ (⟨#[32]⟩ : ByteArray)) ++ t216) ++ (⟨#[10, 79, 80, 69, 78, 32]⟩ : ByteArray)) ++ t217).size + 1 ≤ 9223372036854775807) = true := decide_eq_true c13
          try have c13b2 : (9223372036854775807 < ((((((((⟨#[83, 84, 65, 84, 69, 77, 69, 78, 84, 32]⟩ : ByteArray) ++ a0_0) ++ (⟨#[32]⟩ : ByteArray)) ++ a0_1) ++ (⟨#[32]⟩ : ByteArray)) ++ t216) ++ (⟨#[10, 79, 80, 69, 78, 32]⟩ : ByteArray)) ++ t217).size + 1) = False := eq_false (Nat.not_lt.2 c13)
          try have c13b3 : (9223372036854775807 < 10 + a0_0.size + 1 + a0_1.size + 1 + t216.size + 6 + t217.size + 1) = False := by have h_ := c13b2; simp only [ByteArray.size_append] at h_; exact h_
          try have c13b4 : (9223372036854775807 < a0_0.size + a0_1.size + t216.size + t217.size + 19) = False := by have h_ := c13b3; simp only [Nat.add_assoc, Nat.reduceAdd] at h_ ⊢; exact h_
          have H' := a_ H
          clear H
          go_enter Tryz.func7, Tryz.ntmps7
          try go_wp2_with (first | ((with_reducible refine gate_dst (N := 1) rfl ?_); refine box_event ?hg (N := 1) ?hd (cs := #[.string a0_0, .string a0_1, .int .u64 a0_2, .int .i64 a0_3, .slice A0_4 l0_4.length c0_4, .int .i64 a0_5]) (t := 25) ?hr ?_; (case hd => rfl); (case hg => rfl); (case hr => first | (go_simp; done) | (go_simp; rfl)); intro gb214 hg w14 hbox hb; have n0_ := a_ (below_step z45_ hb); have n1_ := a_ (hbox); have n2_ := a_ ((z32_ : w.heap.size ≤ gb214)); have n3_ := a_ ((z32_ : w.heap.size ≤ gb214)); clear HB; have HB := n0_; have BK214 := n1_; have GW214 := n2_; have GE214 := n3_; clear n0_ n1_ n2_ n3_; clear hb hbox hg; have hcz15_0 : w14.cell? ⟨gb214, 0, none⟩ = some (.string a0_0) := (blk_cell BK214.out 0).trans rfl; have hcz15_1 : w14.cell? ⟨gb214, 1, none⟩ = some (.string a0_1) := (blk_cell BK214.out 1).trans rfl; have hcz15_2 : w14.cell? ⟨gb214, 2, none⟩ = some (.int .u64 a0_2) := (blk_cell BK214.out 2).trans rfl; have hcz15_3 : w14.cell? ⟨gb214, 3, none⟩ = some (.int .i64 a0_3) := (blk_cell BK214.out 3).trans rfl; have hcz15_4 : w14.cell? ⟨gb214, 4, none⟩ = some (.slice A0_4 l0_4.length c0_4) := (blk_cell BK214.out 4).trans rfl; have hcz15_5 : w14.cell? ⟨gb214, 5, none⟩ = some (.int .i64 a0_5) := (blk_cell BK214.out 5).trans rfl; have hfz15_0 := blk_frozen BK214.out 0; have hfz15_1 := blk_frozen BK214.out 1; have hfz15_2 := blk_frozen BK214.out 2; have hfz15_3 := blk_frozen BK214.out 3; have hfz15_4 := blk_frozen BK214.out 4; have hfz15_5 := blk_frozen BK214.out 5) | ((with_reducible refine gate_callee (f := 12) rfl ?_); refine goesL_ (some 8) rfl rfl Tryz.func12 z85_ rfl #[.agg #[.string a0_0, .string a0_1, .int .u64 a0_2, .int .i64 a0_3, .slice A0_4 l0_4.length c0_4, .int .i64 a0_5]] rfl z31_ ?_; (with_reducible refine (cambistref19_Check.calls k a0_0 a0_1 a0_2 a0_3 _ _ l0_4 a0_5 t215 _ ?side1 ?side2 ?side3 A2.out).mono ?_); (case side1 => exact Glob.below HG.out z39_); (case side2 => repeat (first | exact (Kd.C_below HR0_4.out HB.out) | (with_reducible refine Kd.C_alloc ?_ _) | (with_reducible refine Kd.C_drewN ?_ _) | (with_reducible refine Kd.C_drew ?_))); (case side3 => exact HC0_4.out); rintro e w16 ⟨rfl, hb⟩; refine ⟨_, rfl, ?_⟩; have n0_ := a_ (blk_below (g := gb214) (o := .cells #[.string a0_0, .string a0_1, .int .u64 a0_2, .int .i64 a0_3, .slice A0_4 l0_4.length c0_4, .int .i64 a0_5] 25 (0, 0)) z68_ hb); have n1_ := a_ (below_step z39_ hb); clear BK214; clear HB; have BK214 := n0_; have HB := n1_; clear n0_ n1_; (try clear hb); (try clear hb2); (try clear hk); (try clear hi)))
          have n0_ := a_ (blk_drew BK214.out)
          have n1_ := a_ (below_drew1 HB.out)
          clear BK214
          clear HB
          have BK214 := n0_
          have HB := n1_
          clear n0_ n1_
          refine start_ (n := 19) (S := fun w' => w'.cell? ⟨gb214, 0, none⟩ = some (.string a0_0) ∧ w'.cell? ⟨gb214, 1, none⟩ = some (.string a0_1) ∧ w'.cell? ⟨gb214, 2, none⟩ = some (.int .u64 a0_2) ∧ w'.cell? ⟨gb214, 3, none⟩ = some (.int .i64 a0_3) ∧ w'.cell? ⟨gb214, 4, none⟩ = some (.slice A0_4 l0_4.length c0_4) ∧ w'.cell? ⟨gb214, 5, none⟩ = some (.int .i64 a0_5)) (ds := []) #[false, false, false, false, false, false, false, false, false, false, false, false, false, false, false, false, false, false, false] z85_ rfl rfl ⟨(blk_cell BK214.out 0).trans rfl, (blk_cell BK214.out 1).trans rfl, (blk_cell BK214.out 2).trans rfl, (blk_cell BK214.out 3).trans rfl, (blk_cell BK214.out 4).trans rfl, (blk_cell BK214.out 5).trans rfl⟩ (fun hHeld => ?_); refine with_tabW cambistref19_Text.tab3 cambistref19_Text.bits3 (fun HT_ HW_ => ?_)
          generalize w16.drew = w17 at BK214 HB hHeld ⊢
          refine pure_ (i := 0) (N := some 10) (v := ?_) (a' := ?_) (fl_ 19 1) rfl rfl (any_of HT_.out z85_) (fun _ _ _ h => h) (Or.inl ⟨by rfl, ?_⟩) ?_ ?_
          rotate_left
          ·intro w'
           go_simp
           with_reducible rfl
          rotate_left
          ·simp only [Act.put, sT_, s0_, sS_, i64_w, i32_w]
           rfl
          refine pure_ (i := 4) (N := some 14) (v := ?_) (a' := ?_) (fl_ 19 17) rfl rfl (any_of HT_.out z85_) (fun _ _ _ h => h) (Or.inl ⟨by rfl, ?_⟩) ?_ ?_
          rotate_left
          ·intro w'
           go_simp
           with_reducible rfl
          rotate_left
          ·simp only [Act.put, sT_, s0_, sS_, i64_w, i32_w]
           rfl
          refine pure_ (i := 8) (N := some 18) (v := ?_) (a' := ?_) (fl_ 19 273) rfl rfl (any_of HT_.out z85_) (fun _ _ _ h => h) (Or.inl ⟨by rfl, ?_⟩) ?_ ?_
          rotate_left
          ·intro w'
           go_simp
           with_reducible rfl
          rotate_left
          ·simp only [Act.put, sT_, s0_, sS_, i64_w, i32_w]
           rfl
          refine pure_ (i := 13) (N := some 23) (v := ?_) (a' := ?_) (fl_ 19 8465) rfl rfl (any_of HT_.out z85_) (fun _ _ _ h => h) (Or.inl ⟨by rfl, ?_⟩) ?_ ?_
          rotate_left
          ·intro w'
           go_simp
           with_reducible rfl
          rotate_left
          ·simp only [Act.put, sT_, s0_, sS_, i64_w, i32_w]
           rfl
          refine take_ (i := 1) (N := some 11) (v := ?_) (a' := ?_) (fl_ 19 8467) rfl rfl (take_ofW HT_.out HW_.out z85_) (fun _ _ _ h => h) (Or.inl ⟨by rfl, ?_⟩) hHeld ?_ ?_
          rotate_left
          ·rintro w' ⟨s0, s1, s2, s3, s4, s5⟩
           go_simp
           with_reducible rfl
          rotate_left
          ·simp only [Act.put, sT_, s0_, sS_, i64_w, i32_w]
           rfl
          refine pure_ (i := 2) (N := some 12) (v := ?_) (a' := ?_) (fl_ 19 8471) rfl rfl (any_of HT_.out z85_) (fun _ _ _ h => h) (Or.inl ⟨by rfl, ?_⟩) ?_ ?_
          rotate_left
          ·intro w'
           go_simp
           with_reducible rfl
          rotate_left
          ·simp only [Act.put, sT_, s0_, sS_, i64_w, i32_w]
           rfl
          refine pure_ (i := 3) (N := some 13) (v := ?_) (a' := ?_) (fl_ 19 8479) rfl rfl (any_of HT_.out z85_) (fun _ _ _ h => h) (Or.inl ⟨by rfl, ?_⟩) ?_ ?_
          rotate_left
          ·intro w'
           go_simp
           with_reducible rfl
          rotate_left
          ·simp only [Act.put, sT_, s0_, sS_, i64_w, i32_w]
           rfl
          refine take_ (i := 5) (N := some 15) (v := ?_) (a' := ?_) (fl_ 19 8511) rfl rfl (take_ofW HT_.out HW_.out z85_) (fun _ _ _ h => h) (Or.inl ⟨by rfl, ?_⟩) hHeld ?_ ?_
          rotate_left
          ·rintro w' ⟨s0, s1, s2, s3, s4, s5⟩
           go_simp
           with_reducible rfl
          rotate_left
          ·simp only [Act.put, sT_, s0_, sS_, i64_w, i32_w]
           rfl
          refine pure_ (i := 6) (N := some 16) (v := ?_) (a' := ?_) (fl_ 19 8575) rfl rfl (any_of HT_.out z85_) (fun _ _ _ h => h) (Or.inl ⟨by rfl, ?_⟩) ?_ ?_
          rotate_left
          ·intro w'
           go_simp
           with_reducible rfl
          rotate_left
          ·simp only [Act.put, sT_, s0_, sS_, i64_w, i32_w]
           rfl
          refine pure_ (i := 7) (N := some 17) (v := ?_) (a' := ?_) (fl_ 19 8703) rfl rfl (any_of HT_.out z85_) (fun _ _ _ h => h) (Or.inl ⟨by rfl, ?_⟩) ?_ ?_
          rotate_left
          ·intro w'
           go_simp
           with_reducible rfl
          rotate_left
          ·simp only [Act.put, sT_, s0_, sS_, i64_w, i32_w]
           rfl
          refine take_ (i := 9) (N := some 19) (v := ?_) (a' := ?_) (fl_ 19 9215) rfl rfl (take_ofW HT_.out HW_.out z85_) (fun _ _ _ h => h) (Or.inl ⟨by rfl, ?_⟩) hHeld ?_ ?_
          rotate_left
          ·rintro w' ⟨s0, s1, s2, s3, s4, s5⟩
           go_simp
           with_reducible rfl
          rotate_left
          ·simp only [Act.put, sT_, s0_, sS_, i64_w, i32_w]
           rfl
          refine take_ (i := 14) (N := some 24) (v := ?_) (a' := ?_) (fl_ 19 25599) rfl rfl (take_ofW HT_.out HW_.out z85_) (fun _ _ _ h => h) (Or.inl ⟨by rfl, ?_⟩) hHeld ?_ ?_
          rotate_left
          ·rintro w' ⟨s0, s1, s2, s3, s4, s5⟩
           go_simp
           with_reducible rfl
          rotate_left
          ·simp only [Act.put, sT_, s0_, sS_, i64_w, i32_w]
           rfl
          refine one_ (i := 10) (N := some 20) (fl_ 19 26623) rfl rfl (one_of HT_.out z85_) (by decide) (fun K hK => ?_)
          refine goes_ Tryz.func21 z85_ rfl #[.int .u64 a0_2] (by rfl) rfl rfl z31_ ?_
          with_reducible refine (cambistref19_Decimal.calls k a0_2 t216 _ ?side1 A8.out).mono ?_
          (case side1 => exact Glob.below HG.out z39_)
          rintro e w18 ⟨rfl, hb⟩
          refine ⟨_, rfl, ?_⟩
          have n0_ := a_ (blk_below (g := gb214) (o := .cells #[.string a0_0, .string a0_1, .int .u64 a0_2, .int .i64 a0_3, .slice A0_4 l0_4.length c0_4, .int .i64 a0_5] 25 (0, 0)) z68_ hb)
          have n1_ := a_ (below_step z39_ hb)
          clear BK214
          clear HB
          have BK214 := n0_
          have HB := n1_
          clear n0_ n1_
          (try clear hb)
          (try clear hb2)
          (try clear hk)
          (try clear hi)
          refine hK.out _ _ ⟨(blk_cell BK214.out 0).trans rfl, (blk_cell BK214.out 1).trans rfl, (blk_cell BK214.out 2).trans rfl, (blk_cell BK214.out 3).trans rfl, (blk_cell BK214.out 4).trans rfl, (blk_cell BK214.out 5).trans rfl⟩ (fun hHeld => ?_)
          clear hK K
          refine norm_ (a' := ?_) ?_ ?_
          rotate_left
          ·show Act.put _ (some 20) _ = _
           simp only [Act.put, sT_, s0_, sS_, i64_w, i32_w]
           rfl
          refine pure_ (i := 11) (N := some 21) (v := ?_) (a' := ?_) (fl_ 19 28671) rfl rfl (any_of HT_.out z85_) (fun _ _ _ h => h) (Or.inl ⟨by rfl, ?_⟩) ?_ ?_
          rotate_left
          ·intro w'
           go_simp
           with_reducible rfl
          rotate_left
          ·simp only [Act.put, sT_, s0_, sS_, i64_w, i32_w]
           rfl
          refine pure_ (i := 12) (N := some 22) (v := ?_) (a' := ?_) (fl_ 19 32767) rfl rfl (any_of HT_.out z85_) (fun _ _ _ h => h) (Or.inl ⟨by rfl, ?_⟩) ?_ ?_
          rotate_left
          ·intro w'
           go_simp
           with_reducible rfl
          rotate_left
          ·simp only [Act.put, sT_, s0_, sS_, i64_w, i32_w]
           rfl
          refine one_ (i := 15) (N := some 25) (fl_ 19 65535) rfl rfl (one_of HT_.out z85_) (by decide) (fun K hK => ?_)
          refine goes_ Tryz.func22 z85_ rfl #[.int .i64 a0_3] (by rfl) rfl rfl z31_ ?_
          with_reducible refine (cambistref01_Text.calls k a0_3 t217 _ ?side1 A11.out).mono ?_
          (case side1 => exact Glob.below HG.out z39_)
          rintro e w19 ⟨rfl, hb⟩
          refine ⟨_, rfl, ?_⟩
          have n0_ := a_ (blk_below (g := gb214) (o := .cells #[.string a0_0, .string a0_1, .int .u64 a0_2, .int .i64 a0_3, .slice A0_4 l0_4.length c0_4, .int .i64 a0_5] 25 (0, 0)) z68_ hb)
          have n1_ := a_ (below_step z39_ hb)
          clear BK214
          clear HB
          have BK214 := n0_
          have HB := n1_
          clear n0_ n1_
          (try clear hb)
          (try clear hb2)
          (try clear hk)
          (try clear hi)
          refine hK.out _ _ ⟨(blk_cell BK214.out 0).trans rfl, (blk_cell BK214.out 1).trans rfl, (blk_cell BK214.out 2).trans rfl, (blk_cell BK214.out 3).trans rfl, (blk_cell BK214.out 4).trans rfl, (blk_cell BK214.out 5).trans rfl⟩ (fun hHeld => ?_)
          clear hK K
          refine norm_ (a' := ?_) ?_ ?_
          rotate_left
          ·show Act.put _ (some 25) _ = _
           simp only [Act.put, sT_, s0_, sS_, i64_w, i32_w]
           rfl
          refine pure_ (i := 16) (N := some 26) (v := ?_) (a' := ?_) (fl_ 19 131071) rfl rfl (any_of HT_.out z85_) (fun _ _ _ h => h) (Or.inl ⟨by rfl, ?_⟩) ?_ ?_
          rotate_left
          ·intro w'
           go_simp
           with_reducible rfl
          rotate_left
          ·simp only [Act.put, sT_, s0_, sS_, i64_w, i32_w]
           rfl
          refine pure_ (i := 17) (N := some 27) (v := ?_) (a' := ?_) (fl_ 19 262143) rfl rfl (any_of HT_.out z85_) (fun _ _ _ h => h) (Or.inl ⟨by rfl, ?_⟩) ?_ ?_
          rotate_left
          ·intro w'
           go_simp
           with_reducible rfl
          rotate_left
          ·simp only [Act.put, sT_, s0_, sS_, i64_w, i32_w]
           rfl
          refine pure_ (i := 18) (N := some 4) (v := ?_) (a' := ?_) (fl_ 19 524287) rfl rfl (any_of HT_.out z85_) (fun _ _ _ h => h) (Or.inl ⟨by rfl, ?_⟩) ?_ ?_
          rotate_left
          ·intro w'
           go_simp
           with_reducible rfl
          rotate_left
          ·simp only [Act.put, sT_, s0_, sS_, i64_w, i32_w]
           rfl
          refine done_ (done_of HT_.out z85_) ?_
          try go_wp2
          go_loopg [4, 5] k (fun kq v4 v5 w' => ∃ (x4_1 : ByteArray) (x5_1 : Int), v4 = .string x4_1 ∧ v5 = .int .i64 x5_1 ∧ Aside0 (cambistref19_Text.l0 kq x4_1 x5_1 a0_0 a0_1 a0_2 a0_3 l0_4 a0_5 = some (r1, r2)) ∧ Aside0 (kq ≤ k) ∧ Aside0 (w'.heap[gb214]? = some (.cells #[.string a0_0, .string a0_1, .int .u64 a0_2, .int .i64 a0_3, (.slice A0_4 l0_4.length c0_4), .int .i64 a0_5] 25 (0, 0))) ∧ Aside0 (Below w.heap.size w w'))
          case atStart => exact ⟨(((((((((⟨#[83, 84, 65, 84, 69, 77, 69, 78, 84, 32]⟩ : ByteArray) ++ a0_0) ++ (⟨#[32]⟩ : ByteArray)) ++ a0_1) ++ (⟨#[32]⟩ : ByteArray)) ++ t216) ++ (⟨#[10, 79, 80, 69, 78, 32]⟩ : ByteArray)) ++ t217) ++ (⟨#[10]⟩ : ByteArray)), (0), z80_, z80_, H', ⟨Nat.le_refl _⟩, ⟨z68_⟩, ⟨z39_⟩⟩
          case round =>
           clear H'
           try clear c1
           try clear c2
           try clear p2
           try clear c3
           try clear c3b0
           try clear c3b1
           try clear c4
           try clear c4b0
           try clear c4b1
           try clear c4b2
           try clear c5
           try clear c5b0
           try clear c5b1
           try clear c5b2
           try clear c6
           try clear c6b0
           try clear c6b1
           try clear c6b2
           try clear c7
           try clear c7b0
           try clear c7b1
           try clear c7b2
           try clear c9
           try clear c9b0
           try clear c9b1
           try clear c9b2
           try clear c10
           try clear c10b0
           try clear c10b1
           try clear c10b2
           try clear c12
           try clear c12b0
           try clear c12b1
           try clear c12b2
           try clear c13
           try clear c13b0
           try clear c13b1
           try clear c13b2
           try clear hcz15_0
           try clear hcz15_1
           try clear hcz15_2
           try clear hcz15_3
           try clear hcz15_4
           try clear hcz15_5
           try clear hfz15_0
           try clear hfz15_1
           try clear hfz15_2
           try clear hfz15_3
           try clear hfz15_4
           try clear hfz15_5
           obtain ⟨x4_1, x5_1, rfl, rfl, HA, HK1, BK214, HB⟩ := hrel
           cases gk with
           | zero => exact absurd HA.out (by simp [cambistref19_Text.l0])
           | succ k1 =>
            have H := HA.out
            clear HA
            simp only [cambistref19_Text.l0] at H
            by_cases c20 : x5_1 < (l0_4.length : Int)
            ·rw [if_pos c20] at H
             have c20b0 : decide (x5_1 < (l0_4.length : Int)) = true := decide_eq_true c20
             clear c20
             by_cases c21 : 0 ≤ x5_1
             ·rw [if_pos c21] at H
              have c21b0 : decide (0 ≤ x5_1) = true := decide_eq_true c21
              clear c21
              by_cases c22 : x4_1.size + 5 ≤ 9223372036854775807
              ·rw [if_pos c22] at H
               have c22b0 := eq_true c22
               have c22b1 : decide (x4_1.size + 5 ≤ 9223372036854775807) = true := decide_eq_true c22
               try have c22b2 : (9223372036854775807 < x4_1.size + 5) = False := eq_false (Nat.not_lt.2 c22)
               replace H := Option.bind_eq_some_iff.mp H
               obtain ⟨t220, A230, H⟩ := H
               replace H : (if (x4_1 ++ (⟨#[80, 79, 83, 84, 32]⟩ : ByteArray)).size + t220.size ≤ 9223372036854775807 then (if ((x4_1 ++ (⟨#[80, 79, 83, 84, 32]⟩ : ByteArray)) ++ t220).size + 1 ≤ 9223372036854775807 then (if (((x4_1 ++ (⟨#[80, 79, 83, 84, 32]⟩ : ByteArray)) ++ t220) ++ (⟨#[32]⟩ : ByteArray)).size + ((rd_T37 l0_4 x5_1).f1).size ≤ 9223372036854775807 then (if ((((x4_1 ++ (⟨#[80, 79, 83, 84, 32]⟩ : ByteArray)) ++ t220) ++ (⟨#[32]⟩ : ByteArray)) ++ ((rd_T37 l0_4 x5_1).f1)).size + 1 ≤ 9223372036854775807 then ((cambistref01_Text.f k1 ((rd_T37 l0_4 x5_1).f2)).bind fun t221 => (if (((((x4_1 ++ (⟨#[80, 79, 83, 84, 32]⟩ : ByteArray)) ++ t220) ++ (⟨#[32]⟩ : ByteArray)) ++ ((rd_T37 l0_4 x5_1).f1)) ++ (⟨#[32]⟩ : ByteArray)).size + t221.size ≤ 9223372036854775807 then (if ((((((x4_1 ++ (⟨#[80, 79, 83, 84, 32]⟩ : ByteArray)) ++ t220) ++ (⟨#[32]⟩ : ByteArray)) ++ ((rd_T37 l0_4 x5_1).f1)) ++ (⟨#[32]⟩ : ByteArray)) ++ t221).size + 1 ≤ 9223372036854775807 then (cambistref19_Text.l0 k1 (((((((x4_1 ++ (⟨#[80, 79, 83, 84, 32]⟩ : ByteArray)) ++ t220) ++ (⟨#[32]⟩ : ByteArray)) ++ ((rd_T37 l0_4 x5_1).f1)) ++ (⟨#[32]⟩ : ByteArray)) ++ t221) ++ (⟨#[10]⟩ : ByteArray)) (wrap64 (x5_1 + 1)) a0_0 a0_1 a0_2 a0_3 l0_4 a0_5) else (none)) else (none))) else (none)) else (none)) else (none)) else (none)) = some (r1, r2) := H
               have A23 := a_ A230
               clear A230
               by_cases c24 : (x4_1 ++ (⟨#[80, 79, 83, 84, 32]⟩ : ByteArray)).size + t220.size ≤ 9223372036854775807
               ·rw [if_pos c24] at H
                have c24b0 := eq_true c24
                have c24b1 : decide ((x4_1 ++ (⟨#[80, 79, 83, 84, 32]⟩ : ByteArray)).size + t220.size ≤ 9223372036854775807) = true := decide_eq_true c24
                try have c24b2 : (9223372036854775807 < (x4_1 ++ (⟨#[80, 79, 83, 84, 32]⟩ : ByteArray)).size + t220.size) = False := eq_false (Nat.not_lt.2 c24)
                try have c24b3 : (9223372036854775807 < x4_1.size + 5 + t220.size) = False := by have h_ := c24b2; simp only [ByteArray.size_append] at h_; exact h_
                by_cases c25 : ((x4_1 ++ (⟨#[80, 79, 83, 84, 32]⟩ : ByteArray)) ++ t220).size + 1 ≤ 9223372036854775807
                ·rw [if_pos c25] at H
                 have c25b0 := eq_true c25
                 have c25b1 : decide (((x4_1 ++ (⟨#[80, 79, 83, 84, 32]⟩ : ByteArray)) ++ t220).size + 1 ≤ 9223372036854775807) = true := decide_eq_true c25
                 try have c25b2 : (9223372036854775807 < ((x4_1 ++ (⟨#[80, 79, 83, 84, 32]⟩ : ByteArray)) ++ t220).size + 1) = False := eq_false (Nat.not_lt.2 c25)
                 try have c25b3 : (9223372036854775807 < x4_1.size + 5 + t220.size + 1) = False := by have h_ := c25b2; simp only [ByteArray.size_append] at h_; exact h_
                 try have c25b4 : (9223372036854775807 < x4_1.size + t220.size + 6) = False := by have h_ := c25b3; simp only [Nat.add_assoc, Nat.reduceAdd] at h_ ⊢; exact h_
                 by_cases c26 : (((x4_1 ++ (⟨#[80, 79, 83, 84, 32]⟩ : ByteArray)) ++ t220) ++ (⟨#[32]⟩ : ByteArray)).size + ((rd_T37 l0_4 x5_1).f1).size ≤ 9223372036854775807
                 ·rw [if_pos c26] at H
                  have c26b0 := eq_true c26
                  have c26b1 : decide ((((x4_1 ++ (⟨#[80, 79, 83, 84, 32]⟩ : ByteArray)) ++ t220) ++ (⟨#[32]⟩ : ByteArray)).size + ((rd_T37 l0_4 x5_1).f1).size ≤ 9223372036854775807) = true := decide_eq_true c26
                  try have c26b2 : (9223372036854775807 < (((x4_1 ++ (⟨#[80, 79, 83, 84, 32]⟩ : ByteArray)) ++ t220) ++ (⟨#[32]⟩ : ByteArray)).size + ((rd_T37 l0_4 x5_1).f1).size) = False := eq_false (Nat.not_lt.2 c26)
                  try have c26b3 : (9223372036854775807 < x4_1.size + 5 + t220.size + 1 + ((rd_T37 l0_4 x5_1).f1).size) = False := by have h_ := c26b2; simp only [ByteArray.size_append] at h_; exact h_
                  try have c26b4 : (9223372036854775807 < x4_1.size + t220.size + ((rd_T37 l0_4 x5_1).f1).size + 6) = False := by have h_ := c26b3; simp only [Nat.add_assoc, Nat.reduceAdd] at h_ ⊢; exact h_
                  by_cases c27 : ((((x4_1 ++ (⟨#[80, 79, 83, 84, 32]⟩ : ByteArray)) ++ t220) ++ (⟨#[32]⟩ : ByteArray)) ++ ((rd_T37 l0_4 x5_1).f1)).size + 1 ≤ 9223372036854775807
                  ·rw [if_pos c27] at H
                   have c27b0 := eq_true c27
                   have c27b1 : decide (((((x4_1 ++ (⟨#[80, 79, 83, 84, 32]⟩ : ByteArray)) ++ t220) ++ (⟨#[32]⟩ : ByteArray)) ++ ((rd_T37 l0_4 x5_1).f1)).size + 1 ≤ 9223372036854775807) = true := decide_eq_true c27
                   try have c27b2 : (9223372036854775807 < ((((x4_1 ++ (⟨#[80, 79, 83, 84, 32]⟩ : ByteArray)) ++ t220) ++ (⟨#[32]⟩ : ByteArray)) ++ ((rd_T37 l0_4 x5_1).f1)).size + 1) = False := eq_false (Nat.not_lt.2 c27)
                   try have c27b3 : (9223372036854775807 < x4_1.size + 5 + t220.size + 1 + ((rd_T37 l0_4 x5_1).f1).size + 1) = False := by have h_ := c27b2; simp only [ByteArray.size_append] at h_; exact h_
                   try have c27b4 : (9223372036854775807 < x4_1.size + t220.size + ((rd_T37 l0_4 x5_1).f1).size + 7) = False := by have h_ := c27b3; simp only [Nat.add_assoc, Nat.reduceAdd] at h_ ⊢; exact h_
                   replace H := Option.bind_eq_some_iff.mp H
                   obtain ⟨t221, A280, H⟩ := H
                   replace H : (if (((((x4_1 ++ (⟨#[80, 79, 83, 84, 32]⟩ : ByteArray)) ++ t220) ++ (⟨#[32]⟩ : ByteArray)) ++ ((rd_T37 l0_4 x5_1).f1)) ++ (⟨#[32]⟩ : ByteArray)).size + t221.size ≤ 9223372036854775807 then (if ((((((x4_1 ++ (⟨#[80, 79, 83, 84, 32]⟩ : ByteArray)) ++ t220) ++ (⟨#[32]⟩ : ByteArray)) ++ ((rd_T37 l0_4 x5_1).f1)) ++ (⟨#[32]⟩ : ByteArray)) ++ t221).size + 1 ≤ 9223372036854775807 then (cambistref19_Text.l0 k1 (((((((x4_1 ++ (⟨#[80, 79, 83, 84, 32]⟩ : ByteArray)) ++ t220) ++ (⟨#[32]⟩ : ByteArray)) ++ ((rd_T37 l0_4 x5_1).f1)) ++ (⟨#[32]⟩ : ByteArray)) ++ t221) ++ (⟨#[10]⟩ : ByteArray)) (wrap64 (x5_1 + 1)) a0_0 a0_1 a0_2 a0_3 l0_4 a0_5) else (none)) else (none)) = some (r1, r2) := H
                   have A28 := a_ A280
                   clear A280
                   by_cases c29 : (((((x4_1 ++ (⟨#[80, 79, 83, 84, 32]⟩ : ByteArray)) ++ t220) ++ (⟨#[32]⟩ : ByteArray)) ++ ((rd_T37 l0_4 x5_1).f1)) ++ (⟨#[32]⟩ : ByteArray)).size + t221.size ≤ 9223372036854775807
                   ·rw [if_pos c29] at H
                    have c29b0 := eq_true c29
                    have c29b1 : decide ((((((x4_1 ++ (⟨#[80, 79, 83, 84, 32]⟩ : ByteArray)) ++ t220) ++ (⟨#[32]⟩ : ByteArray)) ++ ((rd_T37 l0_4 x5_1).f1)) ++ (⟨#[32]⟩ : ByteArray)).size + t221.size ≤ 9223372036854775807) = true := decide_eq_true c29
                    try have c29b2 : (9223372036854775807 < (((((x4_1 ++ (⟨#[80, 79, 83, 84, 32]⟩ : ByteArray)) ++ t220) ++ (⟨#[32]⟩ : ByteArray)) ++ ((rd_T37 l0_4 x5_1).f1)) ++ (⟨#[32]⟩ : ByteArray)).size + t221.size) = False := eq_false (Nat.not_lt.2 c29)
                    try have c29b3 : (9223372036854775807 < x4_1.size + 5 + t220.size + 1 + ((rd_T37 l0_4 x5_1).f1).size + 1 + t221.size) = False := by have h_ := c29b2; simp only [ByteArray.size_append] at h_; exact h_
                    try have c29b4 : (9223372036854775807 < x4_1.size + t220.size + ((rd_T37 l0_4 x5_1).f1).size + t221.size + 7) = False := by have h_ := c29b3; simp only [Nat.add_assoc, Nat.reduceAdd] at h_ ⊢; exact h_
                    by_cases c30 : ((((((x4_1 ++ (⟨#[80, 79, 83, 84, 32]⟩ : ByteArray)) ++ t220) ++ (⟨#[32]⟩ : ByteArray)) ++ ((rd_T37 l0_4 x5_1).f1)) ++ (⟨#[32]⟩ : ByteArray)) ++ t221).size + 1 ≤ 9223372036854775807
                    ·rw [if_pos c30] at H
                     have c30b0 := eq_true c30
                     have c30b1 : decide (((((((x4_1 ++ (⟨#[80, 79, 83, 84, 32]⟩ : ByteArray)) ++ t220) ++ (⟨#[32]⟩ : ByteArray)) ++ ((rd_T37 l0_4 x5_1).f1)) ++ (⟨#[32]⟩ : ByteArray)) ++ t221).size + 1 ≤ 9223372036854775807) = true := decide_eq_true c30
                     try have c30b2 : (9223372036854775807 < ((((((x4_1 ++ (⟨#[80, 79, 83, 84, 32]⟩ : ByteArray)) ++ t220) ++ (⟨#[32]⟩ : ByteArray)) ++ ((rd_T37 l0_4 x5_1).f1)) ++ (⟨#[32]⟩ : ByteArray)) ++ t221).size + 1) = False := eq_false (Nat.not_lt.2 c30)
                     try have c30b3 : (9223372036854775807 < x4_1.size + 5 + t220.size + 1 + ((rd_T37 l0_4 x5_1).f1).size + 1 + t221.size + 1) = False := by have h_ := c30b2; simp only [ByteArray.size_append] at h_; exact h_
                     try have c30b4 : (9223372036854775807 < x4_1.size + t220.size + ((rd_T37 l0_4 x5_1).f1).size + t221.size + 8) = False := by have h_ := c30b3; simp only [Nat.add_assoc, Nat.reduceAdd] at h_ ⊢; exact h_
                     have H' := a_ H
                     clear H
                     have hcz31_0 : wr.cell? ⟨gb214, 0, none⟩ = some (.string a0_0) := (blk_cell BK214.out 0).trans rfl
                     have hcz31_1 : wr.cell? ⟨gb214, 1, none⟩ = some (.string a0_1) := (blk_cell BK214.out 1).trans rfl
                     have hcz31_2 : wr.cell? ⟨gb214, 2, none⟩ = some (.int .u64 a0_2) := (blk_cell BK214.out 2).trans rfl
                     have hcz31_3 : wr.cell? ⟨gb214, 3, none⟩ = some (.int .i64 a0_3) := (blk_cell BK214.out 3).trans rfl
                     have hcz31_4 : wr.cell? ⟨gb214, 4, none⟩ = some (.slice A0_4 l0_4.length c0_4) := (blk_cell BK214.out 4).trans rfl
                     have hcz31_5 : wr.cell? ⟨gb214, 5, none⟩ = some (.int .i64 a0_5) := (blk_cell BK214.out 5).trans rfl
                     have hfz31_0 := blk_frozen BK214.out 0
                     have hfz31_1 := blk_frozen BK214.out 1
                     have hfz31_2 := blk_frozen BK214.out 2
                     have hfz31_3 := blk_frozen BK214.out 3
                     have hfz31_4 := blk_frozen BK214.out 4
                     have hfz31_5 := blk_frozen BK214.out 5
                     have p218 : 0 ≤ (x5_1 : Int) := of_decide_eq_true z79_
                     have q218 : x5_1 < (l0_4.length : Int) := of_decide_eq_true z79_
                     obtain ⟨ad218, e218, hx218_0, hx218_1, hx218_2⟩ := at_T37 HR0_4.out x5_1 p218 q218
                     cases e218
                     replace hx218_0 := (HB.out.cell (World.block_lt_of_cell? w _ hx218_0)).trans hx218_0
                     replace hx218_1 := (HB.out.cell (World.block_lt_of_cell? w _ hx218_1)).trans hx218_1
                     replace hx218_2 := (HB.out.cell (World.block_lt_of_cell? w _ hx218_2)).trans hx218_2
                     replace p218 := eq_true p218
                     replace q218 := eq_true q218
                     try go_wp2_with (first | ((with_reducible refine gate_dst (N := 6) rfl ?_); refine box_event ?hg (N := 6) ?hd (cs := #[.int .u64 0, .string (⟨#[]⟩ : ByteArray), .int .i64 0]) (t := 37) ?hr ?_; (case hd => rfl); (case hg => rfl); (case hr => first | (go_simp; done) | (go_simp; rfl)); intro gb219 hg w32 hbox hb; have n0_ := a_ (blk_below (g := gb214) (o := .cells #[.string a0_0, .string a0_1, .int .u64 a0_2, .int .i64 a0_3, .slice (some ad218) l0_4.length c0_4, .int .i64 a0_5] 25 (0, 0)) z68_ hb); have n1_ := a_ (below_step z39_ hb); have n2_ := a_ (hbox); have n3_ := a_ ((by rw [hg]; exact (below_size z39_) : w.heap.size ≤ gb219)); have n4_ := a_ ((by rw [hg]; exact (below_size z39_) : w.heap.size ≤ gb219)); have n5_ := a_ ((by rw [hg]; exact Nat.ne_of_lt (blk_lt (g := gb214) (o := .cells #[.string a0_0, .string a0_1, .int .u64 a0_2, .int .i64 a0_3, .slice (some ad218) l0_4.length c0_4, .int .i64 a0_5] 25 (0, 0)) z68_) : gb214 ≠ gb219)); have n6_ := a_ ((by rw [hg]; exact Nat.ne_of_gt (blk_lt (g := gb214) (o := .cells #[.string a0_0, .string a0_1, .int .u64 a0_2, .int .i64 a0_3, .slice (some ad218) l0_4.length c0_4, .int .i64 a0_5] 25 (0, 0)) z68_) : gb219 ≠ gb214)); clear BK214; clear HB; have BK214 := n0_; have HB := n1_; have BK219 := n2_; have GW219 := n3_; have GE219 := n4_; have NB214_219 := n5_; have NB219_214 := n6_; clear n0_ n1_ n2_ n3_ n4_ n5_ n6_; clear hb hbox hg; have hnb33 := NB219_214.out; have hnc33 := NB214_219.out; have hcz34_0 : w32.cell? ⟨gb219, 0, none⟩ = some (.int .u64 0) := (blk_cell BK219.out 0).trans rfl; have hcz34_1 : w32.cell? ⟨gb219, 1, none⟩ = some (.string (⟨#[]⟩ : ByteArray)) := (blk_cell BK219.out 1).trans rfl; have hcz34_2 : w32.cell? ⟨gb219, 2, none⟩ = some (.int .i64 0) := (blk_cell BK219.out 2).trans rfl; have hfz34_0 := blk_frozen BK219.out 0; have hfz34_1 := blk_frozen BK219.out 1; have hfz34_2 := blk_frozen BK219.out 2))
                     have n0_ : Aside0 ((((w32.setCell ⟨gb219, 0, none⟩ (.int .u64 ((rd_T37 l0_4 x5_1).f0))).setCell ⟨gb219, 1, none⟩ (.string ((rd_T37 l0_4 x5_1).f1))).setCell ⟨gb219, 2, none⟩ (.int .i64 ((rd_T37 l0_4 x5_1).f2))).heap[gb214]? = some (.cells #[.string a0_0, .string a0_1, .int .u64 a0_2, .int .i64 a0_3, .slice (some ad218) l0_4.length c0_4, .int .i64 a0_5] 25 (0, 0))) := ⟨by (with_reducible repeat (first | refine kN_ ?_ _ | refine kD_ ?_ | refine kA_ ?_ _)); refine blk_far ?_ NB214_219.out _; (with_reducible repeat (first | refine kN_ ?_ _ | refine kD_ ?_ | refine kA_ ?_ _)); refine blk_far ?_ NB214_219.out _; (with_reducible repeat (first | refine kN_ ?_ _ | refine kD_ ?_ | refine kA_ ?_ _)); refine blk_far ?_ NB214_219.out _; (with_reducible repeat (first | refine kN_ ?_ _ | refine kD_ ?_ | refine kA_ ?_ _)); exact BK214.out⟩
                     have n1_ : Aside0 ((((w32.setCell ⟨gb219, 0, none⟩ (.int .u64 ((rd_T37 l0_4 x5_1).f0))).setCell ⟨gb219, 1, none⟩ (.string ((rd_T37 l0_4 x5_1).f1))).setCell ⟨gb219, 2, none⟩ (.int .i64 ((rd_T37 l0_4 x5_1).f2))).heap[gb219]? = some (.cells #[.int .u64 ((rd_T37 l0_4 x5_1).f0), .string ((rd_T37 l0_4 x5_1).f1), .int .i64 ((rd_T37 l0_4 x5_1).f2)] 37 (0, 0))) := ⟨by (with_reducible repeat (first | refine kN_ ?_ _ | refine kD_ ?_ | refine kA_ ?_ _)); refine blk_put (cs := #[.int .u64 ((rd_T37 l0_4 x5_1).f0), .string ((rd_T37 l0_4 x5_1).f1), .int .i64 0]) ?_ 2 _ rfl; (with_reducible repeat (first | refine kN_ ?_ _ | refine kD_ ?_ | refine kA_ ?_ _)); refine blk_put (cs := #[.int .u64 ((rd_T37 l0_4 x5_1).f0), .string (⟨#[]⟩ : ByteArray), .int .i64 0]) ?_ 1 _ rfl; (with_reducible repeat (first | refine kN_ ?_ _ | refine kD_ ?_ | refine kA_ ?_ _)); refine blk_put (cs := #[.int .u64 0, .string (⟨#[]⟩ : ByteArray), .int .i64 0]) ?_ 0 _ rfl; (with_reducible repeat (first | refine kN_ ?_ _ | refine kD_ ?_ | refine kA_ ?_ _)); exact BK219.out⟩
                     have n2_ : Aside0 (Below w.heap.size w (((w32.setCell ⟨gb219, 0, none⟩ (.int .u64 ((rd_T37 l0_4 x5_1).f0))).setCell ⟨gb219, 1, none⟩ (.string ((rd_T37 l0_4 x5_1).f1))).setCell ⟨gb219, 2, none⟩ (.int .i64 ((rd_T37 l0_4 x5_1).f2)))) := ⟨z22_⟩
                     (try clear BK214)
                     (try clear BK219)
                     (try clear HB)
                     generalize (((w32.setCell ⟨gb219, 0, none⟩ (.int .u64 ((rd_T37 l0_4 x5_1).f0))).setCell ⟨gb219, 1, none⟩ (.string ((rd_T37 l0_4 x5_1).f1))).setCell ⟨gb219, 2, none⟩ (.int .i64 ((rd_T37 l0_4 x5_1).f2))) = w35 at n0_ n1_ n2_ ⊢
                     have BK214 := n0_
                     have BK219 := n1_
                     have HB := n2_
                     clear n0_ n1_ n2_
                     have n0_ := a_ (blk_drew BK214.out)
                     have n1_ := a_ (blk_drew BK219.out)
                     have n2_ := a_ (below_drew1 HB.out)
                     clear BK214
                     clear BK219
                     clear HB
                     have BK214 := n0_
                     have BK219 := n1_
                     have HB := n2_
                     clear n0_ n1_ n2_
                     refine start_ (n := 17) (S := fun w' => w'.cell? ⟨gb219, 0, none⟩ = some (.int .u64 ((rd_T37 l0_4 x5_1).f0)) ∧ w'.cell? ⟨gb219, 1, none⟩ = some (.string ((rd_T37 l0_4 x5_1).f1)) ∧ w'.cell? ⟨gb219, 2, none⟩ = some (.int .i64 ((rd_T37 l0_4 x5_1).f2))) (ds := []) #[false, false, false, false, false, false, false, false, false, false, false, false, false, false, false, false, false] z85_ rfl rfl ⟨(blk_cell BK219.out 0).trans rfl, (blk_cell BK219.out 1).trans rfl, (blk_cell BK219.out 2).trans rfl⟩ (fun hHeld => ?_); refine with_tabW cambistref19_Text.tab8 cambistref19_Text.bits8 (fun HT_ HW_ => ?_)
                     generalize w35.drew = w36 at BK214 BK219 HB hHeld ⊢
                     refine pure_ (i := 0) (N := some 40) (v := ?_) (a' := ?_) (fl_ 17 1) rfl rfl (any_of HT_.out z85_) (fun _ _ _ h => h) (Or.inl ⟨by rfl, ?_⟩) ?_ ?_
                     rotate_left
                     ·intro w'
                      go_simp
                      with_reducible rfl
                     rotate_left
                     ·simp only [Act.put, sT_, s0_, sS_, i64_w, i32_w]
                      rfl
                     refine pure_ (i := 1) (N := some 41) (v := ?_) (a' := ?_) (fl_ 17 3) rfl rfl (any_of HT_.out z85_) (fun _ _ _ h => h) (Or.inl ⟨by rfl, ?_⟩) ?_ ?_
                     rotate_left
                     ·intro w'
                      go_simp
                      with_reducible rfl
                     rotate_left
                     ·simp only [Act.put, sT_, s0_, sS_, i64_w, i32_w]
                      rfl
                     refine pure_ (i := 2) (N := some 42) (v := ?_) (a' := ?_) (fl_ 17 7) rfl rfl (any_of HT_.out z85_) (fun _ _ _ h => h) (Or.inl ⟨by rfl, ?_⟩) ?_ ?_
                     rotate_left
                     ·intro w'
                      go_simp
                      with_reducible rfl
                     rotate_left
                     ·simp only [Act.put, sT_, s0_, sS_, i64_w, i32_w]
                      rfl
                     refine pure_ (i := 7) (N := some 47) (v := ?_) (a' := ?_) (fl_ 17 135) rfl rfl (any_of HT_.out z85_) (fun _ _ _ h => h) (Or.inl ⟨by rfl, ?_⟩) ?_ ?_
                     rotate_left
                     ·intro w'
                      go_simp
                      with_reducible rfl
                     rotate_left
                     ·simp only [Act.put, sT_, s0_, sS_, i64_w, i32_w]
                      rfl
                     refine pure_ (i := 11) (N := some 51) (v := ?_) (a' := ?_) (fl_ 17 2183) rfl rfl (any_of HT_.out z85_) (fun _ _ _ h => h) (Or.inl ⟨by rfl, ?_⟩) ?_ ?_
                     rotate_left
                     ·intro w'
                      go_simp
                      with_reducible rfl
                     rotate_left
                     ·simp only [Act.put, sT_, s0_, sS_, i64_w, i32_w]
                      rfl
                     refine take_ (i := 3) (N := some 43) (v := ?_) (a' := ?_) (fl_ 17 2191) rfl rfl (take_ofW HT_.out HW_.out z85_) (fun _ _ _ h => h) (Or.inl ⟨by rfl, ?_⟩) hHeld ?_ ?_
                     rotate_left
                     ·rintro w' ⟨s0, s1, s2⟩
                      go_simp
                      with_reducible rfl
                     rotate_left
                     ·simp only [Act.put, sT_, s0_, sS_, i64_w, i32_w]
                      rfl
                     refine take_ (i := 8) (N := some 48) (v := ?_) (a' := ?_) (fl_ 17 2447) rfl rfl (take_ofW HT_.out HW_.out z85_) (fun _ _ _ h => h) (Or.inl ⟨by rfl, ?_⟩) hHeld ?_ ?_
                     rotate_left
                     ·rintro w' ⟨s0, s1, s2⟩
                      go_simp
                      with_reducible rfl
                     rotate_left
                     ·simp only [Act.put, sT_, s0_, sS_, i64_w, i32_w]
                      rfl
                     refine take_ (i := 12) (N := some 52) (v := ?_) (a' := ?_) (fl_ 17 6543) rfl rfl (take_ofW HT_.out HW_.out z85_) (fun _ _ _ h => h) (Or.inl ⟨by rfl, ?_⟩) hHeld ?_ ?_
                     rotate_left
                     ·rintro w' ⟨s0, s1, s2⟩
                      go_simp
                      with_reducible rfl
                     rotate_left
                     ·simp only [Act.put, sT_, s0_, sS_, i64_w, i32_w]
                      rfl
                     refine one_ (i := 4) (N := some 44) (fl_ 17 6559) rfl rfl (one_of HT_.out z85_) (by decide) (fun K hK => ?_)
                     refine goes_ Tryz.func21 z85_ rfl #[.int .u64 ((rd_T37 l0_4 x5_1).f0)] (by rfl) rfl rfl z31_ ?_
                     with_reducible refine (cambistref19_Decimal.calls k1 ((rd_T37 l0_4 x5_1).f0) t220 _ ?side1 A23.out).mono ?_
                     (case side1 => exact Glob.below HG.out z22_)
                     rintro e w37 ⟨rfl, hb⟩
                     refine ⟨_, rfl, ?_⟩
                     have n0_ := a_ (blk_below (g := gb214) (o := .cells #[.string a0_0, .string a0_1, .int .u64 a0_2, .int .i64 a0_3, .slice (some ad218) l0_4.length c0_4, .int .i64 a0_5] 25 (0, 0)) z68_ hb)
                     have n1_ := a_ (blk_below (g := gb219) (o := .cells #[.int .u64 ((rd_T37 l0_4 x5_1).f0), .string ((rd_T37 l0_4 x5_1).f1), .int .i64 ((rd_T37 l0_4 x5_1).f2)] 37 (0, 0)) (by (with_reducible repeat (first | refine kN_ ?_ _ | refine kD_ ?_ | refine kA_ ?_ _)); exact BK219.out) hb)
                     have n2_ := a_ (below_step z22_ hb)
                     clear BK214
                     clear BK219
                     clear HB
                     have BK214 := n0_
                     have BK219 := n1_
                     have HB := n2_
                     clear n0_ n1_ n2_
                     (try clear hb)
                     (try clear hb2)
                     (try clear hk)
                     (try clear hi)
                     refine hK.out _ _ ⟨(blk_cell BK219.out 0).trans rfl, (blk_cell BK219.out 1).trans rfl, (blk_cell BK219.out 2).trans rfl⟩ (fun hHeld => ?_)
                     clear hK K
                     refine norm_ (a' := ?_) ?_ ?_
                     rotate_left
                     ·show Act.put _ (some 44) _ = _
                      simp only [Act.put, sT_, s0_, sS_, i64_w, i32_w]
                      rfl
                     refine pure_ (i := 5) (N := some 45) (v := ?_) (a' := ?_) (fl_ 17 6591) rfl rfl (any_of HT_.out z85_) (fun _ _ _ h => h) (Or.inl ⟨by rfl, ?_⟩) ?_ ?_
                     rotate_left
                     ·intro w'
                      go_simp
                      with_reducible rfl
                     rotate_left
                     ·simp only [Act.put, sT_, s0_, sS_, i64_w, i32_w]
                      rfl
                     refine pure_ (i := 6) (N := some 46) (v := ?_) (a' := ?_) (fl_ 17 6655) rfl rfl (any_of HT_.out z85_) (fun _ _ _ h => h) (Or.inl ⟨by rfl, ?_⟩) ?_ ?_
                     rotate_left
                     ·intro w'
                      go_simp
                      with_reducible rfl
                     rotate_left
                     ·simp only [Act.put, sT_, s0_, sS_, i64_w, i32_w]
                      rfl
                     refine pure_ (i := 9) (N := some 49) (v := ?_) (a' := ?_) (fl_ 17 7167) rfl rfl (any_of HT_.out z85_) (fun _ _ _ h => h) (Or.inl ⟨by rfl, ?_⟩) ?_ ?_
                     rotate_left
                     ·intro w'
                      go_simp
                      with_reducible rfl
                     rotate_left
                     ·simp only [Act.put, sT_, s0_, sS_, i64_w, i32_w]
                      rfl
                     refine pure_ (i := 10) (N := some 50) (v := ?_) (a' := ?_) (fl_ 17 8191) rfl rfl (any_of HT_.out z85_) (fun _ _ _ h => h) (Or.inl ⟨by rfl, ?_⟩) ?_ ?_
                     rotate_left
                     ·intro w'
                      go_simp
                      with_reducible rfl
                     rotate_left
                     ·simp only [Act.put, sT_, s0_, sS_, i64_w, i32_w]
                      rfl
                     refine one_ (i := 13) (N := some 53) (fl_ 17 16383) rfl rfl (one_of HT_.out z85_) (by decide) (fun K hK => ?_)
                     refine goes_ Tryz.func22 z85_ rfl #[.int .i64 ((rd_T37 l0_4 x5_1).f2)] (by rfl) rfl rfl z31_ ?_
                     with_reducible refine (cambistref01_Text.calls k1 ((rd_T37 l0_4 x5_1).f2) t221 _ ?side1 A28.out).mono ?_
                     (case side1 => exact Glob.below HG.out z22_)
                     rintro e w38 ⟨rfl, hb⟩
                     refine ⟨_, rfl, ?_⟩
                     have n0_ := a_ (blk_below (g := gb214) (o := .cells #[.string a0_0, .string a0_1, .int .u64 a0_2, .int .i64 a0_3, .slice (some ad218) l0_4.length c0_4, .int .i64 a0_5] 25 (0, 0)) z68_ hb)
                     have n1_ := a_ (blk_below (g := gb219) (o := .cells #[.int .u64 ((rd_T37 l0_4 x5_1).f0), .string ((rd_T37 l0_4 x5_1).f1), .int .i64 ((rd_T37 l0_4 x5_1).f2)] 37 (0, 0)) (by (with_reducible repeat (first | refine kN_ ?_ _ | refine kD_ ?_ | refine kA_ ?_ _)); exact BK219.out) hb)
                     have n2_ := a_ (below_step z22_ hb)
                     clear BK214
                     clear BK219
                     clear HB
                     have BK214 := n0_
                     have BK219 := n1_
                     have HB := n2_
                     clear n0_ n1_ n2_
                     (try clear hb)
                     (try clear hb2)
                     (try clear hk)
                     (try clear hi)
                     refine hK.out _ _ ⟨(blk_cell BK219.out 0).trans rfl, (blk_cell BK219.out 1).trans rfl, (blk_cell BK219.out 2).trans rfl⟩ (fun hHeld => ?_)
                     clear hK K
                     refine norm_ (a' := ?_) ?_ ?_
                     rotate_left
                     ·show Act.put _ (some 53) _ = _
                      simp only [Act.put, sT_, s0_, sS_, i64_w, i32_w]
                      rfl
                     refine pure_ (i := 14) (N := some 54) (v := ?_) (a' := ?_) (fl_ 17 32767) rfl rfl (any_of HT_.out z85_) (fun _ _ _ h => h) (Or.inl ⟨by rfl, ?_⟩) ?_ ?_
                     rotate_left
                     ·intro w'
                      go_simp
                      with_reducible rfl
                     rotate_left
                     ·simp only [Act.put, sT_, s0_, sS_, i64_w, i32_w]
                      rfl
                     refine pure_ (i := 15) (N := some 55) (v := ?_) (a' := ?_) (fl_ 17 65535) rfl rfl (any_of HT_.out z85_) (fun _ _ _ h => h) (Or.inl ⟨by rfl, ?_⟩) ?_ ?_
                     rotate_left
                     ·intro w'
                      go_simp
                      with_reducible rfl
                     rotate_left
                     ·simp only [Act.put, sT_, s0_, sS_, i64_w, i32_w]
                      rfl
                     refine pure_ (i := 16) (N := some 4) (v := ?_) (a' := ?_) (fl_ 17 131071) rfl rfl (any_of HT_.out z85_) (fun _ _ _ h => h) (Or.inl ⟨by rfl, ?_⟩) ?_ ?_
                     rotate_left
                     ·intro w'
                      go_simp
                      with_reducible rfl
                     rotate_left
                     ·simp only [Act.put, sT_, s0_, sS_, i64_w, i32_w]
                      rfl
                     refine done_ (done_of HT_.out z85_) ?_
                     try go_wp2
                     go_roundg k1
                     case measure => have := HK1.out; omega
                     case rel => exact ⟨(((((((x4_1 ++ (⟨#[80, 79, 83, 84, 32]⟩ : ByteArray)) ++ t220) ++ (⟨#[32]⟩ : ByteArray)) ++ ((rd_T37 l0_4 x5_1).f1)) ++ (⟨#[32]⟩ : ByteArray)) ++ t221) ++ (⟨#[10]⟩ : ByteArray)), (wrap64 (x5_1 + 1)), z80_, z80_, H', ⟨z84_⟩, ⟨z68_⟩, ⟨z22_⟩⟩
                    ·rw [if_neg c30] at H
                     exact absurd H (by simp)
                   ·rw [if_neg c29] at H
                    exact absurd H (by simp)
                  ·rw [if_neg c27] at H
                   exact absurd H (by simp)
                 ·rw [if_neg c26] at H
                  exact absurd H (by simp)
                ·rw [if_neg c25] at H
                 exact absurd H (by simp)
               ·rw [if_neg c24] at H
                exact absurd H (by simp)
              ·rw [if_neg c22] at H
               exact absurd H (by simp)
             ·rw [if_neg c21] at H
              exact absurd H (by simp)
            ·rw [if_neg c20] at H
             have c20b0 : decide (x5_1 < (l0_4.length : Int)) = false := decide_eq_false c20
             clear c20
             by_cases c39 : x4_1.size + 6 ≤ 9223372036854775807
             ·rw [if_pos c39] at H
              have c39b0 := eq_true c39
              have c39b1 : decide (x4_1.size + 6 ≤ 9223372036854775807) = true := decide_eq_true c39
              try have c39b2 : (9223372036854775807 < x4_1.size + 6) = False := eq_false (Nat.not_lt.2 c39)
              replace H := Option.bind_eq_some_iff.mp H
              obtain ⟨t222, A400, H⟩ := H
              replace H : (if (x4_1 ++ (⟨#[67, 76, 79, 83, 69, 32]⟩ : ByteArray)).size + t222.size ≤ 9223372036854775807 then (if ((x4_1 ++ (⟨#[67, 76, 79, 83, 69, 32]⟩ : ByteArray)) ++ t222).size + 1 ≤ 9223372036854775807 then (some (((x4_1 ++ (⟨#[67, 76, 79, 83, 69, 32]⟩ : ByteArray)) ++ t222) ++ (⟨#[10]⟩ : ByteArray), 0)) else (none)) else (none)) = some (r1, r2) := H
              have A40 := a_ A400
              clear A400
              by_cases c41 : (x4_1 ++ (⟨#[67, 76, 79, 83, 69, 32]⟩ : ByteArray)).size + t222.size ≤ 9223372036854775807
              ·rw [if_pos c41] at H
               have c41b0 := eq_true c41
               have c41b1 : decide ((x4_1 ++ (⟨#[67, 76, 79, 83, 69, 32]⟩ : ByteArray)).size + t222.size ≤ 9223372036854775807) = true := decide_eq_true c41
               try have c41b2 : (9223372036854775807 < (x4_1 ++ (⟨#[67, 76, 79, 83, 69, 32]⟩ : ByteArray)).size + t222.size) = False := eq_false (Nat.not_lt.2 c41)
               try have c41b3 : (9223372036854775807 < x4_1.size + 6 + t222.size) = False := by have h_ := c41b2; simp only [ByteArray.size_append] at h_; exact h_
               by_cases c42 : ((x4_1 ++ (⟨#[67, 76, 79, 83, 69, 32]⟩ : ByteArray)) ++ t222).size + 1 ≤ 9223372036854775807
               ·rw [if_pos c42] at H
                have c42b0 := eq_true c42
                have c42b1 : decide (((x4_1 ++ (⟨#[67, 76, 79, 83, 69, 32]⟩ : ByteArray)) ++ t222).size + 1 ≤ 9223372036854775807) = true := decide_eq_true c42
                try have c42b2 : (9223372036854775807 < ((x4_1 ++ (⟨#[67, 76, 79, 83, 69, 32]⟩ : ByteArray)) ++ t222).size + 1) = False := eq_false (Nat.not_lt.2 c42)
                try have c42b3 : (9223372036854775807 < x4_1.size + 6 + t222.size + 1) = False := by have h_ := c42b2; simp only [ByteArray.size_append] at h_; exact h_
                try have c42b4 : (9223372036854775807 < x4_1.size + t222.size + 7) = False := by have h_ := c42b3; simp only [Nat.add_assoc, Nat.reduceAdd] at h_ ⊢; exact h_
                simp only [Option.some.injEq, Prod.mk.injEq] at H
                obtain ⟨rfl, rfl⟩ := H
                have hcz43_0 : wr.cell? ⟨gb214, 0, none⟩ = some (.string a0_0) := (blk_cell BK214.out 0).trans rfl
                have hcz43_1 : wr.cell? ⟨gb214, 1, none⟩ = some (.string a0_1) := (blk_cell BK214.out 1).trans rfl
                have hcz43_2 : wr.cell? ⟨gb214, 2, none⟩ = some (.int .u64 a0_2) := (blk_cell BK214.out 2).trans rfl
                have hcz43_3 : wr.cell? ⟨gb214, 3, none⟩ = some (.int .i64 a0_3) := (blk_cell BK214.out 3).trans rfl
                have hcz43_4 : wr.cell? ⟨gb214, 4, none⟩ = some (.slice A0_4 l0_4.length c0_4) := (blk_cell BK214.out 4).trans rfl
                have hcz43_5 : wr.cell? ⟨gb214, 5, none⟩ = some (.int .i64 a0_5) := (blk_cell BK214.out 5).trans rfl
                have hfz43_0 := blk_frozen BK214.out 0
                have hfz43_1 := blk_frozen BK214.out 1
                have hfz43_2 := blk_frozen BK214.out 2
                have hfz43_3 := blk_frozen BK214.out 3
                have hfz43_4 := blk_frozen BK214.out 4
                have hfz43_5 := blk_frozen BK214.out 5
                go_wp2_with (first | ((with_reducible refine gate_callee (f := 22) rfl ?_); refine goesL_ (some 60) rfl rfl Tryz.func22 z85_ rfl #[.int .i64 a0_5] rfl z31_ ?_; (with_reducible refine (cambistref01_Text.calls k1 a0_5 t222 _ ?side1 A40.out).mono ?_); (case side1 => exact Glob.below HG.out z39_); rintro e w44 ⟨rfl, hb⟩; refine ⟨_, rfl, ?_⟩; have n0_ := a_ (blk_below (g := gb214) (o := .cells #[.string a0_0, .string a0_1, .int .u64 a0_2, .int .i64 a0_3, .slice A0_4 l0_4.length c0_4, .int .i64 a0_5] 25 (0, 0)) z68_ hb); have n1_ := a_ (below_step z39_ hb); clear BK214; clear HB; have BK214 := n0_; have HB := n1_; clear n0_ n1_; (try clear hb); (try clear hb2); (try clear hk); (try clear hi)))
                go_ret2
                exact ⟨z76_, z39_⟩
               ·rw [if_neg c42] at H
                exact absurd H (by simp)
              ·rw [if_neg c41] at H
               exact absurd H (by simp)
             ·rw [if_neg c39] at H
              exact absurd H (by simp)
         ·rw [if_neg c13] at H
          exact absurd H (by simp)
        ·rw [if_neg c12] at H
         exact absurd H (by simp)
       ·rw [if_neg c10] at H
        exact absurd H (by simp)
      ·rw [if_neg c9] at H
       exact absurd H (by simp)
     ·rw [if_neg c7] at H
      exact absurd H (by simp)
    ·rw [if_neg c6] at H
     exact absurd H (by simp)
   ·rw [if_neg c5] at H
    exact absurd H (by simp)
  ·rw [if_neg c4] at H
   exact absurd H (by simp)
 ·rw [if_neg c3] at H
  have c3b0 : (t215 == 0) = false := beq_eq_false_iff_ne.mpr c3
  have c3b1 : (t215 != 0) = true := bne_iff_ne.mpr c3
  simp only [Option.some.injEq, Prod.mk.injEq] at H
  obtain ⟨rfl, rfl⟩ := H
  go_enter Tryz.func7, Tryz.ntmps7
  go_wp2_with (first | ((with_reducible refine gate_dst (N := 1) rfl ?_); refine box_event ?hg (N := 1) ?hd (cs := #[.string a0_0, .string a0_1, .int .u64 a0_2, .int .i64 a0_3, .slice A0_4 l0_4.length c0_4, .int .i64 a0_5]) (t := 25) ?hr ?_; (case hd => rfl); (case hg => rfl); (case hr => first | (go_simp; done) | (go_simp; rfl)); intro gb214 hg w45 hbox hb; have n0_ := a_ (below_step z45_ hb); have n1_ := a_ (hbox); have n2_ := a_ ((z32_ : w.heap.size ≤ gb214)); have n3_ := a_ ((z32_ : w.heap.size ≤ gb214)); clear HB; have HB := n0_; have BK214 := n1_; have GW214 := n2_; have GE214 := n3_; clear n0_ n1_ n2_ n3_; clear hb hbox hg; have hcz46_0 : w45.cell? ⟨gb214, 0, none⟩ = some (.string a0_0) := (blk_cell BK214.out 0).trans rfl; have hcz46_1 : w45.cell? ⟨gb214, 1, none⟩ = some (.string a0_1) := (blk_cell BK214.out 1).trans rfl; have hcz46_2 : w45.cell? ⟨gb214, 2, none⟩ = some (.int .u64 a0_2) := (blk_cell BK214.out 2).trans rfl; have hcz46_3 : w45.cell? ⟨gb214, 3, none⟩ = some (.int .i64 a0_3) := (blk_cell BK214.out 3).trans rfl; have hcz46_4 : w45.cell? ⟨gb214, 4, none⟩ = some (.slice A0_4 l0_4.length c0_4) := (blk_cell BK214.out 4).trans rfl; have hcz46_5 : w45.cell? ⟨gb214, 5, none⟩ = some (.int .i64 a0_5) := (blk_cell BK214.out 5).trans rfl; have hfz46_0 := blk_frozen BK214.out 0; have hfz46_1 := blk_frozen BK214.out 1; have hfz46_2 := blk_frozen BK214.out 2; have hfz46_3 := blk_frozen BK214.out 3; have hfz46_4 := blk_frozen BK214.out 4; have hfz46_5 := blk_frozen BK214.out 5) | ((with_reducible refine gate_callee (f := 12) rfl ?_); refine goesL_ (some 8) rfl rfl Tryz.func12 z85_ rfl #[.agg #[.string a0_0, .string a0_1, .int .u64 a0_2, .int .i64 a0_3, .slice A0_4 l0_4.length c0_4, .int .i64 a0_5]] rfl z31_ ?_; (with_reducible refine (cambistref19_Check.calls k a0_0 a0_1 a0_2 a0_3 _ _ l0_4 a0_5 t215 _ ?side1 ?side2 ?side3 A2.out).mono ?_); (case side1 => exact Glob.below HG.out z39_); (case side2 => repeat (first | exact (Kd.C_below HR0_4.out HB.out) | (with_reducible refine Kd.C_alloc ?_ _) | (with_reducible refine Kd.C_drewN ?_ _) | (with_reducible refine Kd.C_drew ?_))); (case side3 => exact HC0_4.out); rintro e w47 ⟨rfl, hb⟩; refine ⟨_, rfl, ?_⟩; have n0_ := a_ (blk_below (g := gb214) (o := .cells #[.string a0_0, .string a0_1, .int .u64 a0_2, .int .i64 a0_3, .slice A0_4 l0_4.length c0_4, .int .i64 a0_5] 25 (0, 0)) z68_ hb); have n1_ := a_ (below_step z39_ hb); clear BK214; clear HB; have BK214 := n0_; have HB := n1_; clear n0_ n1_; (try clear hb); (try clear hb2); (try clear hk); (try clear hi)))
  go_ret2
  exact ⟨z76_, z39_⟩

/-! ### cambistref19_lines: function 28 -/
def cambistref19_lines.l0 : Nat → ByteArray → List ByteArray → ByteArray → Int → Option (List ByteArray)
 | 0, _, _, _, _ => none
 | k + 1, x0, x3, x4, x5 => if x5 < (x0.size : Int) then (if 0 ≤ x5 then (if (bt x0 x5) = 10 then (if x3.length < 8796093022208 then (cambistref19_lines.l0 k x0 (x3 ++ [x4]) (⟨#[]⟩ : ByteArray) (wrap64 (x5 + 1))) else (none)) else (if x5 ≤ (wrap64 (x5 + 1)) then (if (wrap64 (x5 + 1)) ≤ (x0.size : Int) then (if x4.size + (x0.extract (x5 : Int).toNat ((wrap64 (x5 + 1)) : Int).toNat).size ≤ 9223372036854775807 then (cambistref19_lines.l0 k x0 x3 (x4 ++ (x0.extract (x5 : Int).toNat ((wrap64 (x5 + 1)) : Int).toNat)) (wrap64 (x5 + 1))) else (none)) else (none)) else (none))) else (none)) else (if x4.toList = ([] : List UInt8) then (some x3) else (some ([] : List ByteArray)))
def cambistref19_lines.f (k : Nat) (a0 : ByteArray) : Option (List ByteArray) := cambistref19_lines.l0 k a0 ([] : List ByteArray) (⟨#[]⟩ : ByteArray) 0
theorem cambistref19_lines.mono_l : ∀ k, (∀ y0 y1 y2 y3, LeO (cambistref19_lines.l0 k y0 y1 y2 y3) (cambistref19_lines.l0 (k + 1) y0 y1 y2 y3))
 | 0 => fun _ _ _ _ r h => by simp [cambistref19_lines.l0] at h
 | k + 1 => by
  have ih0 := cambistref19_lines.mono_l k
  ·intro y0 y1 y2 y3
   unfold cambistref19_lines.l0
   repeat' first
   | (with_reducible exact ih0 _ _ _ _)
   | (with_reducible first | exact LeO.refl _ | exact LeO.none _ | refine LeO.ite ?_ ?_ | refine LeO.bind ?_ fun _ => ?_)
   | exact ih0 _ _ _ _
theorem cambistref19_lines.mono : ∀ a0 k, LeO (cambistref19_lines.f k a0) (cambistref19_lines.f (k + 1) a0) := by
 intro a0 k
 have ih0 := cambistref19_lines.mono_l k
 unfold cambistref19_lines.f
 repeat' first
   | (with_reducible exact ih0 _ _ _ _)
   | (with_reducible first | exact LeO.refl _ | exact LeO.none _ | refine LeO.ite ?_ ?_ | refine LeO.bind ?_ fun _ => ?_)
   | exact ih0 _ _ _ _
set_option maxHeartbeats 8000000 in
set_option maxRecDepth 100000 in
theorem cambistref19_lines.calls (k : Nat) (a0 : ByteArray) (r : List ByteArray) (w : World) (hG : Glob w) (h : cambistref19_lines.f k a0 = some r) :
  Calls Tryz.prog 28 #[.string a0] w fun e w' => ∃ v0_ : Value, e = .returned (v0_) ∧ Kd.R Kd.string 9 w' w.heap.size (fun _ => True) v0_ r ∧ Below w.heap.size w w' := by
 have HG := a_ hG
 clear hG
 have HB := a_ (Below.refl w.heap.size w)
 have H : (cambistref19_lines.l0 k a0 ([] : List ByteArray) (⟨#[]⟩ : ByteArray) 0) = some r := h
 clear h
 have H' := a_ H
 clear H
 go_enter Tryz.func28, Tryz.ntmps28
 go_wp2
 go_loopg [3, 4, 5] k (fun kq v3 v4 v5 w' => ∃ (x3_1 : List ByteArray) (x4_1 : ByteArray) (x5_1 : Int), v4 = .string x4_1 ∧ v5 = .int .i64 x5_1 ∧ Aside0 (cambistref19_lines.l0 kq a0 x3_1 x4_1 x5_1 = some r) ∧ Aside0 (kq ≤ k) ∧ Aside0 (Kd.R Kd.string 9 w' w.heap.size (fun _ => True) v3 x3_1) ∧ Aside0 (Below w.heap.size w w'))
 case atStart => exact ⟨(([] : List ByteArray)), ((⟨#[]⟩ : ByteArray)), (0), z80_, z80_, H', ⟨Nat.le_refl _⟩, ⟨z30_⟩, ⟨z45_⟩⟩
 case round =>
  clear H'
  obtain ⟨x3_1, x4_1, x5_1, rfl, rfl, HA, HK1, HO_3, HB⟩ := hrel
  cases gk with
  | zero => exact absurd HA.out (by simp [cambistref19_lines.l0])
  | succ k1 =>
   have H := HA.out
   clear HA
   simp only [cambistref19_lines.l0] at H
   by_cases c2 : x5_1 < (a0.size : Int)
   ·rw [if_pos c2] at H
    have c2b0 : decide (x5_1 < (a0.size : Int)) = true := decide_eq_true c2
    clear c2
    by_cases c3 : 0 ≤ x5_1
    ·rw [if_pos c3] at H
     have c3b0 : decide (0 ≤ x5_1) = true := decide_eq_true c3
     clear c3
     by_cases c5 : (bt a0 x5_1) = 10
     ·rw [if_pos c5] at H
      have c5b0 : ((bt a0 x5_1) == 10) = true := beq_iff_eq.mpr c5
      have c5b1 : ((bt a0 x5_1) != 10) = false := bne_eq_false_iff_eq.mpr c5
      clear c5
      by_cases c6 : x3_1.length < 8796093022208
      ·rw [if_pos c6] at H
       have LMc6 := a_ c6
       clear c6
       obtain ⟨y223, hy223⟩ : ∃ y_ : List ByteArray, y_ = (x3_1 ++ [x4_1]) := ⟨_, rfl⟩
       replace H : (cambistref19_lines.l0 k1 a0 y223 (⟨#[]⟩ : ByteArray) (wrap64 (x5_1 + 1))) = some r := by first | (rw [hy223]; with_reducible exact H) | (have H2_ := (Option.bind_some _ _).symm.trans H; rw [hy223]; with_reducible exact H2_) | (have H2_ := (Option.bind_some _ _).symm.trans H; with_reducible exact H2_) | with_reducible exact H | (rw [hy223]; exact H) | exact H
       have Ny223 := a_ hy223
       clear hy223
       have H' := a_ H
       clear H
       have p4 : 0 ≤ (x5_1 : Int) := of_decide_eq_true z79_
       have q4 : x5_1 < (a0.size : Int) := of_decide_eq_true z79_
       have hx4 := bt_at a0 x5_1
       replace p4 := eq_true p4
       replace q4 := eq_true q4
       go_wp2_with (first | ((with_reducible refine gate_builtin (b := .append) (xs := #[.tmp 16, .tmp 18]) rfl ?_); at_builtin; refine Kd.R_append Kd.string (w0 := w) w.heap.size rfl (.tmp 16) (.tmp 18) 51 9 (.string ⟨#[]⟩) 16 rfl Tryz.underlying51 info9 rfl (by decide) (by omega) u3 x3_1 x4_1 [.string x4_1] (fun _ => True) (fun _ => False) rfl rfl ?aP (fun _ hk => hk.elim) ?aF ?aO ?aB ?aS ?aL ?_; (case aP => exact rfl); (case aB => exact z45_); (case aF => exact (fun _ _ => trivial)); (case aO => exact z56_); (case aS => exact (below_size z45_)); (case aL => have := LMc6.out; omega); intro v224 w7 ho hb hg hat; rw [← Ny223.out] at ho; have n0_ := a_ (hb); have n1_ := a_ (ho); clear HB; clear HO_3; have HB := n0_; have HO225 := n1_; clear n0_ n1_; clear ho hb hg hat))
       go_roundg k1
       case measure => have := HK1.out; omega
       case rel => exact ⟨(y223), ((⟨#[]⟩ : ByteArray)), (wrap64 (x5_1 + 1)), z80_, z80_, H', ⟨z84_⟩, ⟨by (with_reducible repeat (first | apply Kd.R_alloc | apply Kd.R_drewN | apply Kd.R_drew)); exact HO225.out⟩, ⟨z45_⟩⟩
      ·rw [if_neg c6] at H
       exact absurd H (by simp)
     ·rw [if_neg c5] at H
      have c5b0 : ((bt a0 x5_1) == 10) = false := beq_eq_false_iff_ne.mpr c5
      have c5b1 : ((bt a0 x5_1) != 10) = true := bne_iff_ne.mpr c5
      have c8b0 := eq_true (of_decide_eq_true z79_ : 0 ≤ x5_1)
      by_cases c9 : x5_1 ≤ (wrap64 (x5_1 + 1))
      ·rw [if_pos c9] at H
       have c9b0 := eq_true c9
       have c9b1 : decide (x5_1 ≤ (wrap64 (x5_1 + 1))) = true := decide_eq_true c9
       by_cases c10 : (wrap64 (x5_1 + 1)) ≤ (a0.size : Int)
       ·rw [if_pos c10] at H
        have c10b0 := eq_true c10
        have c10b1 : decide ((wrap64 (x5_1 + 1)) ≤ (a0.size : Int)) = true := decide_eq_true c10
        by_cases c11 : x4_1.size + (a0.extract (x5_1 : Int).toNat ((wrap64 (x5_1 + 1)) : Int).toNat).size ≤ 9223372036854775807
        ·rw [if_pos c11] at H
         have c11b0 := eq_true c11
         have c11b1 : decide (x4_1.size + (a0.extract (x5_1 : Int).toNat ((wrap64 (x5_1 + 1)) : Int).toNat).size ≤ 9223372036854775807) = true := decide_eq_true c11
         try have c11b2 : (9223372036854775807 < x4_1.size + (a0.extract (x5_1 : Int).toNat ((wrap64 (x5_1 + 1)) : Int).toNat).size) = False := eq_false (Nat.not_lt.2 c11)
         have H' := a_ H
         clear H
         have p4 : 0 ≤ (x5_1 : Int) := of_decide_eq_true z79_
         have q4 : x5_1 < (a0.size : Int) := of_decide_eq_true z79_
         have hx4 := bt_at a0 x5_1
         replace p4 := eq_true p4
         replace q4 := eq_true q4
         go_wp2
         go_roundg k1
         case measure => have := HK1.out; omega
         case rel => exact ⟨(x3_1), (x4_1 ++ (a0.extract (x5_1 : Int).toNat ((wrap64 (x5_1 + 1)) : Int).toNat)), (wrap64 (x5_1 + 1)), z80_, z80_, H', ⟨z84_⟩, ⟨z56_⟩, ⟨z45_⟩⟩
        ·rw [if_neg c11] at H
         exact absurd H (by simp)
       ·rw [if_neg c10] at H
        exact absurd H (by simp)
      ·rw [if_neg c9] at H
       exact absurd H (by simp)
    ·rw [if_neg c3] at H
     exact absurd H (by simp)
   ·rw [if_neg c2] at H
    have c2b0 : decide (x5_1 < (a0.size : Int)) = false := decide_eq_false c2
    clear c2
    by_cases c12 : x4_1.toList = ([] : List UInt8)
    ·rw [if_pos c12] at H
     have c12b0 : (x4_1.toList == ([] : List UInt8)) = true := beq_iff_eq.mpr c12
     have c12b1 : (x4_1.toList != ([] : List UInt8)) = false := bne_eq_false_iff_eq.mpr c12
     clear c12
     obtain rfl := Option.some.inj H
     go_wp2
     go_ret
     exact ⟨_, z76_, z56_, z45_⟩
    ·rw [if_neg c12] at H
     have c12b0 : (x4_1.toList == ([] : List UInt8)) = false := beq_eq_false_iff_ne.mpr c12
     have c12b1 : (x4_1.toList != ([] : List UInt8)) = true := bne_iff_ne.mpr c12
     obtain rfl := Option.some.inj H
     go_wp2
     go_ret
     exact ⟨_, z76_, z30_, z45_⟩

end Go.Proofs.YtnngbnhbmgdkoaaGreatDoor.P
