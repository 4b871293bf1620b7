-- Laid by wip/tools/cprint.py of this claim's own repo (over the kit's print).
import Derived.Test.YtjlifcbddednaaaDoorPx0
import Derived.Test.YtjlifcbddednaaaDoorPx1
import Derived.Test.YtjlifcbddednaaaDoorPx9
namespace Go.Proofs.YtjlifcbddednaaaDoor.P
open Go.RowKit Go.Proofs.YtjlifcbddednaaaDoor.E Go.Proofs.YtjlifcbddednaaaDoorW.PrintWords Go.Proofs.YtjlifcbddednaaaDoorW.PrintLast
set_option linter.unusedVariables false
set_option linter.unusedSimpArgs false

attribute [local go_sem high] eqA36
/-! ### cambistref12_Pairs: function 11 -/
def cambistref12_Pairs.l0 : Nat → ByteArray → List (S36) → Int → Int → Int → ByteArray → List (S42) → Option ((List (S36)) × Int)
 | 0, _, _, _, _, _, _, _ => none
 | k + 1, x4, x7, x8, x272000, x272001, x272002, x272003 => if x8 < (x272003.length : Int) then (if 0 ≤ x8 then ((cambistref02_Digits.f k (IntKind.u64.wrap (x8))).bind fun t286 => (if 12 ≤ (t286.size : Int) then (if 1 + (t286.extract 12 t286.size).size ≤ 9223372036854775807 then ((cambistref02_Key.f k 101 (([x4, (⟨#[49]⟩ : ByteArray) ++ (t286.extract 12 t286.size)] : List ByteArray))).bind fun bt290 => (if ((rd_T42 x272003 x8).f0).size + 1 ≤ 9223372036854775807 then (if (((rd_T42 x272003 x8).f0) ++ (⟨#[124]⟩ : ByteArray)).size + ((rd_T42 x272003 x8).f1).size ≤ 9223372036854775807 then (if ((((rd_T42 x272003 x8).f0) ++ (⟨#[124]⟩ : ByteArray)) ++ ((rd_T42 x272003 x8).f1)).size + 1 ≤ 9223372036854775807 then ((cambistref01_Text.f k ((rd_T42 x272003 x8).f2)).bind fun t292 => (if (((((rd_T42 x272003 x8).f0) ++ (⟨#[124]⟩ : ByteArray)) ++ ((rd_T42 x272003 x8).f1)) ++ (⟨#[124]⟩ : ByteArray)).size + t292.size ≤ 9223372036854775807 then (if x7.length < 4398046511104 then (cambistref12_Pairs.l0 k x4 (x7 ++ [(⟨bt290.1, (((((rd_T42 x272003 x8).f0) ++ (⟨#[124]⟩ : ByteArray)) ++ ((rd_T42 x272003 x8).f1)) ++ (⟨#[124]⟩ : ByteArray)) ++ t292⟩ : S36)]) (wrap64 (x8 + 1)) x272000 x272001 x272002 x272003) else (none)) else (none))) else (none)) else (none)) else (none))) else (none)) else (none))) else (none)) else (some (x7, 0))
def cambistref12_Pairs.f (k : Nat) (a0_0 : Int) (a0_1 : Int) (a0_2 : ByteArray) (l0_3 : List (S42)) : Option ((List (S36)) × Int) := (cambistref12_Check.f k a0_0 a0_1 a0_2 l0_3).bind fun t272 => (if t272 = 0 then ((cambistref02_Digits.f k a0_0).bind fun t273 => ((cambistref02_Key.f k 101 (([t273, (⟨#[48]⟩ : ByteArray)] : List ByteArray))).bind fun bt277 => ((cambistref02_Digits.f k a0_1).bind fun t279 => (if t279.size + 1 ≤ 9223372036854775807 then (if (t279 ++ (⟨#[124]⟩ : ByteArray)).size + a0_2.size ≤ 9223372036854775807 then (if ((t279 ++ (⟨#[124]⟩ : ByteArray)) ++ a0_2).size + 1 ≤ 9223372036854775807 then ((cambistref01_Text.f k (l0_3.length : Int)).bind fun t280 => (if (((t279 ++ (⟨#[124]⟩ : ByteArray)) ++ a0_2) ++ (⟨#[124]⟩ : ByteArray)).size + t280.size ≤ 9223372036854775807 then (cambistref12_Pairs.l0 k t273 (([(⟨bt277.1, (((t279 ++ (⟨#[124]⟩ : ByteArray)) ++ a0_2) ++ (⟨#[124]⟩ : ByteArray)) ++ t280⟩ : S36)] : List (S36))) 0 a0_0 a0_1 a0_2 l0_3) else (none))) else (none)) else (none)) else (none))))) else (some (([] : List (S36)), 120)))
theorem cambistref12_Pairs.mono_l : ∀ k, (∀ y0 y1 y2 y3 y4 y5 y6, LeO (cambistref12_Pairs.l0 k y0 y1 y2 y3 y4 y5 y6) (cambistref12_Pairs.l0 (k + 1) y0 y1 y2 y3 y4 y5 y6))
 | 0 => fun _ _ _ _ _ _ _ r h => by simp [cambistref12_Pairs.l0] at h
 | k + 1 => by
  have ih0 := cambistref12_Pairs.mono_l k
  ·intro y0 y1 y2 y3 y4 y5 y6
   unfold cambistref12_Pairs.l0
   repeat' first
   | (with_reducible exact ih0 _ _ _ _ _ _ _)
   | (with_reducible exact cambistref01_Text.mono _ _)
   | (with_reducible exact cambistref02_Digits.mono _ _)
   | (with_reducible exact cambistref02_Key.mono _ _ _)
   | (with_reducible exact cambistref12_Check.mono _ _ _ _ _)
   | (with_reducible exact LeO.refl _)
   | (with_reducible exact LeO.none _)
   | (with_reducible refine LeO.ite ?_ ?_)
   | (with_reducible refine LeO.bind ?_ (fun _ => ?_))
   | exact ih0 _ _ _ _ _ _ _
   | exact cambistref01_Text.mono _ _
   | exact cambistref02_Digits.mono _ _
   | exact cambistref02_Key.mono _ _ _
   | exact cambistref12_Check.mono _ _ _ _ _
   | exact LeO.none _
   | refine LeO.ite ?_ ?_
   | refine LeO.bind ?_ (fun _ => ?_)
theorem cambistref12_Pairs.mono : ∀ a0 a1 a2 a3 k, LeO (cambistref12_Pairs.f k a0 a1 a2 a3) (cambistref12_Pairs.f (k + 1) a0 a1 a2 a3) := by
 intro a0 a1 a2 a3 k
 have ih0 := cambistref12_Pairs.mono_l k
 unfold cambistref12_Pairs.f
 repeat' first
   | (with_reducible exact ih0 _ _ _ _ _ _ _)
   | (with_reducible exact cambistref01_Text.mono _ _)
   | (with_reducible exact cambistref02_Digits.mono _ _)
   | (with_reducible exact cambistref02_Key.mono _ _ _)
   | (with_reducible exact cambistref12_Check.mono _ _ _ _ _)
   | (with_reducible exact LeO.refl _)
   | (with_reducible exact LeO.none _)
   | (with_reducible refine LeO.ite ?_ ?_)
   | (with_reducible refine LeO.bind ?_ (fun _ => ?_))
   | exact ih0 _ _ _ _ _ _ _
   | exact cambistref01_Text.mono _ _
   | exact cambistref02_Digits.mono _ _
   | exact cambistref02_Key.mono _ _ _
   | exact cambistref12_Check.mono _ _ _ _ _
   | exact LeO.none _
   | refine LeO.ite ?_ ?_
   | refine LeO.bind ?_ (fun _ => ?_)
def cambistref12_Pairs.T5 : Bool × List (List Nat × List Nat) := (true, [([], []), ([], []), ([1], [1]), ([2], [2]), ([3], [3]), ([], []), ([5], [5]), ([4, 6], [4, 6]), ([7], [7]), ([], []), ([9], [9]), ([10], [10]), ([11, 3], [11]), ([8, 12], [8, 12]), ([0, 13], [0, 13]), ([14], [14]), ([15, 12, 0, 1, 2, 3, 4, 5, 6, 7, 8, 9, 10, 11, 12, 13, 14, 15], [15])])
def cambistref12_Pairs.B5 : List Nat := [0, 0, 2, 6, 14, 0, 32, 126, 254, 0, 512, 1536, 3598, 8190, 16383, 32767, 65535]
theorem cambistref12_Pairs.tab5 : rtab .any (opsOf Tryd.f11 5) = cambistref12_Pairs.T5 := by kernel_rfl
theorem cambistref12_Pairs.bits5 : waitsOk cambistref12_Pairs.T5.2 cambistref12_Pairs.B5 = true := by kernel_rfl
def cambistref12_Pairs.T12 : Bool × List (List Nat × List Nat) := (true, [([], []), ([], []), ([], []), ([2], [2]), ([3], [3]), ([], []), ([5], [5]), ([4, 6], [4, 6]), ([7], [7]), ([], []), ([9], [9]), ([10], [10]), ([8, 11], [8, 11]), ([1, 12], [1, 12]), ([13], [13]), ([0, 14, 11], [0, 14]), ([15, 15, 0, 1, 2, 3, 4, 5, 6, 7, 8, 9, 10, 11, 12, 13, 14, 15], [0, 15])])
def cambistref12_Pairs.B12 : List Nat := [0, 0, 0, 4, 12, 0, 32, 124, 252, 0, 512, 1536, 4092, 8190, 16382, 32767, 65535]
theorem cambistref12_Pairs.tab12 : rtab .any (opsOf Tryd.f11 12) = cambistref12_Pairs.T12 := by kernel_rfl
theorem cambistref12_Pairs.bits12 : waitsOk cambistref12_Pairs.T12.2 cambistref12_Pairs.B12 = true := by kernel_rfl
set_option maxHeartbeats 8000000 in
set_option maxRecDepth 100000 in
theorem cambistref12_Pairs.calls (k : Nat) (a0_0 : Int) (a0_1 : Int) (a0_2 : ByteArray) (A0_3 : Option Addr) (c0_3 : Nat) (l0_3 : List (S42)) (r1 : List (S36)) (r2 : Int) (w : World) (hG : Glob w) (hr0_3 : Kd.C k42 w A0_3 l0_3.length l0_3) (hc0_3 : l0_3.length ≤ c0_3) (h : cambistref12_Pairs.f k a0_0 a0_1 a0_2 l0_3 = some (r1, r2)) :
  Calls Tryd.prog 11 #[.agg #[.int .u64 a0_0, .int .u64 a0_1, .string a0_2, .slice A0_3 l0_3.length c0_3]] w fun e w' => ∃ v0_ : Value, e = .returned (.tuple #[v0_, .int .i64 r2]) ∧ Kd.R k36 36 w' w.heap.size (fun _ => True) v0_ r1 ∧ Below w.heap.size w w' := by
 have hu26 := Tryd.underlying26
 have hu36 := Tryd.underlying36
 have hu42 := Tryd.underlying42
 have HG := Aside0.mk hG
 clear hG
 have HR0_3 := Aside0.mk hr0_3
 have HC0_3 := Aside0.mk hc0_3
 clear hr0_3 hc0_3
 have HB := Aside0.mk (Below.refl w.heap.size w)
 have H : ((cambistref12_Check.f k a0_0 a0_1 a0_2 l0_3).bind fun t272 => (if t272 = 0 then ((cambistref02_Digits.f k a0_0).bind fun t273 => ((cambistref02_Key.f k 101 (([t273, (⟨#[48]⟩ : ByteArray)] : List ByteArray))).bind fun bt277 => ((cambistref02_Digits.f k a0_1).bind fun t279 => (if t279.size + 1 ≤ 9223372036854775807 then (if (t279 ++ (⟨#[124]⟩ : ByteArray)).size + a0_2.size ≤ 9223372036854775807 then (if ((t279 ++ (⟨#[124]⟩ : ByteArray)) ++ a0_2).size + 1 ≤ 9223372036854775807 then ((cambistref01_Text.f k (l0_3.length : Int)).bind fun t280 => (if (((t279 ++ (⟨#[124]⟩ : ByteArray)) ++ a0_2) ++ (⟨#[124]⟩ : ByteArray)).size + t280.size ≤ 9223372036854775807 then (cambistref12_Pairs.l0 k t273 (([(⟨bt277.1, (((t279 ++ (⟨#[124]⟩ : ByteArray)) ++ a0_2) ++ (⟨#[124]⟩ : ByteArray)) ++ t280⟩ : S36)] : List (S36))) 0 a0_0 a0_1 a0_2 l0_3) else (none))) else (none)) else (none)) else (none))))) else (some (([] : List (S36)), 120)))) = some (r1, r2) := h
 clear h
 replace H := Option.bind_eq_some_iff.mp H
 obtain ⟨t272, A20, H⟩ := H
 replace H : (if t272 = 0 then ((cambistref02_Digits.f k a0_0).bind fun t273 => ((cambistref02_Key.f k 101 (([t273, (⟨#[48]⟩ : ByteArray)] : List ByteArray))).bind fun bt277 => ((cambistref02_Digits.f k a0_1).bind fun t279 => (if t279.size + 1 ≤ 9223372036854775807 then (if (t279 ++ (⟨#[124]⟩ : ByteArray)).size + a0_2.size ≤ 9223372036854775807 then (if ((t279 ++ (⟨#[124]⟩ : ByteArray)) ++ a0_2).size + 1 ≤ 9223372036854775807 then ((cambistref01_Text.f k (l0_3.length : Int)).bind fun t280 => (if (((t279 ++ (⟨#[124]⟩ : ByteArray)) ++ a0_2) ++ (⟨#[124]⟩ : ByteArray)).size + t280.size ≤ 9223372036854775807 then (cambistref12_Pairs.l0 k t273 (([(⟨bt277.1, (((t279 ++ (⟨#[124]⟩ : ByteArray)) ++ a0_2) ++ (⟨#[124]⟩ : ByteArray)) ++ t280⟩ : S36)] : List (S36))) 0 a0_0 a0_1 a0_2 l0_3) else (none))) else (none)) else (none)) else (none))))) else (some (([] : List (S36)), 120))) = some (r1, r2) := H
 have A2 := Aside0.mk A20
 clear A20
 by_cases c3 : t272 = 0
 ·rw [if_pos c3] at H
  have c3b0 : (t272 == 0) = true := beq_iff_eq.mpr c3
  have c3b1 : (t272 != 0) = false := bne_eq_false_iff_eq.mpr c3
  clear c3
  replace H := Option.bind_eq_some_iff.mp H
  obtain ⟨t273, A40, H⟩ := H
  replace H : ((cambistref02_Key.f k 101 (([t273, (⟨#[48]⟩ : ByteArray)] : List ByteArray))).bind fun bt277 => ((cambistref02_Digits.f k a0_1).bind fun t279 => (if t279.size + 1 ≤ 9223372036854775807 then (if (t279 ++ (⟨#[124]⟩ : ByteArray)).size + a0_2.size ≤ 9223372036854775807 then (if ((t279 ++ (⟨#[124]⟩ : ByteArray)) ++ a0_2).size + 1 ≤ 9223372036854775807 then ((cambistref01_Text.f k (l0_3.length : Int)).bind fun t280 => (if (((t279 ++ (⟨#[124]⟩ : ByteArray)) ++ a0_2) ++ (⟨#[124]⟩ : ByteArray)).size + t280.size ≤ 9223372036854775807 then (cambistref12_Pairs.l0 k t273 (([(⟨bt277.1, (((t279 ++ (⟨#[124]⟩ : ByteArray)) ++ a0_2) ++ (⟨#[124]⟩ : ByteArray)) ++ t280⟩ : S36)] : List (S36))) 0 a0_0 a0_1 a0_2 l0_3) else (none))) else (none)) else (none)) else (none)))) = some (r1, r2) := H
  have A4 := Aside0.mk A40
  clear A40
  obtain ⟨y274, hy274⟩ : ∃ y_ : List ByteArray, y_ = (([t273, (⟨#[48]⟩ : ByteArray)] : List ByteArray)) := ⟨_, rfl⟩
  replace H : ((cambistref02_Key.f k 101 y274).bind fun bt277 => ((cambistref02_Digits.f k a0_1).bind fun t279 => (if t279.size + 1 ≤ 9223372036854775807 then (if (t279 ++ (⟨#[124]⟩ : ByteArray)).size + a0_2.size ≤ 9223372036854775807 then (if ((t279 ++ (⟨#[124]⟩ : ByteArray)) ++ a0_2).size + 1 ≤ 9223372036854775807 then ((cambistref01_Text.f k (l0_3.length : Int)).bind fun t280 => (if (((t279 ++ (⟨#[124]⟩ : ByteArray)) ++ a0_2) ++ (⟨#[124]⟩ : ByteArray)).size + t280.size ≤ 9223372036854775807 then (cambistref12_Pairs.l0 k t273 (([(⟨bt277.1, (((t279 ++ (⟨#[124]⟩ : ByteArray)) ++ a0_2) ++ (⟨#[124]⟩ : ByteArray)) ++ t280⟩ : S36)] : List (S36))) 0 a0_0 a0_1 a0_2 l0_3) else (none))) else (none)) else (none)) else (none)))) = some (r1, r2) := by first | (rw [hy274]; with_reducible exact H) | (have H2_ := (Option.bind_some _ _).symm.trans H; rw [hy274]; with_reducible exact H2_) | (have H2_ := (Option.bind_some _ _).symm.trans H; with_reducible exact H2_) | with_reducible exact H | (rw [hy274]; exact H) | exact H
  have Ny274 := Aside0.mk hy274
  clear hy274
  replace H := Option.bind_eq_some_iff.mp H
  obtain ⟨⟨t277, t278⟩, A50, H⟩ := H
  replace H : ((cambistref02_Digits.f k a0_1).bind fun t279 => (if t279.size + 1 ≤ 9223372036854775807 then (if (t279 ++ (⟨#[124]⟩ : ByteArray)).size + a0_2.size ≤ 9223372036854775807 then (if ((t279 ++ (⟨#[124]⟩ : ByteArray)) ++ a0_2).size + 1 ≤ 9223372036854775807 then ((cambistref01_Text.f k (l0_3.length : Int)).bind fun t280 => (if (((t279 ++ (⟨#[124]⟩ : ByteArray)) ++ a0_2) ++ (⟨#[124]⟩ : ByteArray)).size + t280.size ≤ 9223372036854775807 then (cambistref12_Pairs.l0 k t273 (([(⟨t277, (((t279 ++ (⟨#[124]⟩ : ByteArray)) ++ a0_2) ++ (⟨#[124]⟩ : ByteArray)) ++ t280⟩ : S36)] : List (S36))) 0 a0_0 a0_1 a0_2 l0_3) else (none))) else (none)) else (none)) else (none))) = some (r1, r2) := H
  have A5 := Aside0.mk A50
  clear A50
  replace H := Option.bind_eq_some_iff.mp H
  obtain ⟨t279, A60, H⟩ := H
  replace H : (if t279.size + 1 ≤ 9223372036854775807 then (if (t279 ++ (⟨#[124]⟩ : ByteArray)).size + a0_2.size ≤ 9223372036854775807 then (if ((t279 ++ (⟨#[124]⟩ : ByteArray)) ++ a0_2).size + 1 ≤ 9223372036854775807 then ((cambistref01_Text.f k (l0_3.length : Int)).bind fun t280 => (if (((t279 ++ (⟨#[124]⟩ : ByteArray)) ++ a0_2) ++ (⟨#[124]⟩ : ByteArray)).size + t280.size ≤ 9223372036854775807 then (cambistref12_Pairs.l0 k t273 (([(⟨t277, (((t279 ++ (⟨#[124]⟩ : ByteArray)) ++ a0_2) ++ (⟨#[124]⟩ : ByteArray)) ++ t280⟩ : S36)] : List (S36))) 0 a0_0 a0_1 a0_2 l0_3) else (none))) else (none)) else (none)) else (none)) = some (r1, r2) := H
  have A6 := Aside0.mk A60
  clear A60
  by_cases c7 : t279.size + 1 ≤ 9223372036854775807
  ·rw [if_pos c7] at H
   have c7b0 := eq_true c7
   have c7b1 : decide (t279.size + 1 ≤ 9223372036854775807) = true := decide_eq_true c7
   try have c7b2 : (9223372036854775807 < t279.size + 1) = False := eq_false (Nat.not_lt.2 c7)
   by_cases c8 : (t279 ++ (⟨#[124]⟩ : ByteArray)).size + a0_2.size ≤ 9223372036854775807
   ·rw [if_pos c8] at H
    have c8b0 := eq_true c8
    have c8b1 : decide ((t279 ++ (⟨#[124]⟩ : ByteArray)).size + a0_2.size ≤ 9223372036854775807) = true := decide_eq_true c8
    try have c8b2 : (9223372036854775807 < (t279 ++ (⟨#[124]⟩ : ByteArray)).size + a0_2.size) = False := eq_false (Nat.not_lt.2 c8)
    try have c8b3 : (9223372036854775807 < t279.size + 1 + a0_2.size) = False := by have h_ := c8b2; simp only [ByteArray.size_append] at h_; exact h_
    by_cases c9 : ((t279 ++ (⟨#[124]⟩ : ByteArray)) ++ a0_2).size + 1 ≤ 9223372036854775807
    ·rw [if_pos c9] at H
     have c9b0 := eq_true c9
     have c9b1 : decide (((t279 ++ (⟨#[124]⟩ : ByteArray)) ++ a0_2).size + 1 ≤ 9223372036854775807) = true := decide_eq_true c9
     try have c9b2 : (9223372036854775807 < ((t279 ++ (⟨#[124]⟩ : ByteArray)) ++ a0_2).size + 1) = False := eq_false (Nat.not_lt.2 c9)
     try have c9b3 : (9223372036854775807 < t279.size + 1 + a0_2.size + 1) = False := by have h_ := c9b2; simp only [ByteArray.size_append] at h_; exact h_
     try have c9b4 : (9223372036854775807 < t279.size + a0_2.size + 2) = False := by have h_ := c9b3; simp only [Nat.add_assoc, Nat.reduceAdd] at h_ ⊢; exact h_
     replace H := Option.bind_eq_some_iff.mp H
     obtain ⟨t280, A100, H⟩ := H
     replace H : (if (((t279 ++ (⟨#[124]⟩ : ByteArray)) ++ a0_2) ++ (⟨#[124]⟩ : ByteArray)).size + t280.size ≤ 9223372036854775807 then (cambistref12_Pairs.l0 k t273 (([(⟨t277, (((t279 ++ (⟨#[124]⟩ : ByteArray)) ++ a0_2) ++ (⟨#[124]⟩ : ByteArray)) ++ t280⟩ : S36)] : List (S36))) 0 a0_0 a0_1 a0_2 l0_3) else (none)) = some (r1, r2) := H
     have A10 := Aside0.mk A100
     clear A100
     by_cases c11 : (((t279 ++ (⟨#[124]⟩ : ByteArray)) ++ a0_2) ++ (⟨#[124]⟩ : ByteArray)).size + t280.size ≤ 9223372036854775807
     ·rw [if_pos c11] at H
      have c11b0 := eq_true c11
      have c11b1 : decide ((((t279 ++ (⟨#[124]⟩ : ByteArray)) ++ a0_2) ++ (⟨#[124]⟩ : ByteArray)).size + t280.size ≤ 9223372036854775807) = true := decide_eq_true c11
      try have c11b2 : (9223372036854775807 < (((t279 ++ (⟨#[124]⟩ : ByteArray)) ++ a0_2) ++ (⟨#[124]⟩ : ByteArray)).size + t280.size) = False := eq_false (Nat.not_lt.2 c11)
      try have c11b3 : (9223372036854775807 < t279.size + 1 + a0_2.size + 1 + t280.size) = False := by have h_ := c11b2; simp only [ByteArray.size_append] at h_; exact h_
      try have c11b4 : (9223372036854775807 < t279.size + a0_2.size + t280.size + 2) = False := by have h_ := c11b3; simp only [Nat.add_assoc, Nat.reduceAdd] at h_ ⊢; exact h_
      obtain ⟨y281, hy281⟩ : ∃ y_ : List (S36), y_ = (([(⟨t277, (((t279 ++ (⟨#[124]⟩ : ByteArray)) ++ a0_2) ++ (⟨#[124]⟩ : ByteArray)) ++ t280⟩ : S36)] : List (S36))) := ⟨_, rfl⟩
      replace H : (cambistref12_Pairs.l0 k t273 y281 0 a0_0 a0_1 a0_2 l0_3) = some (r1, r2) := by first | (rw [hy281]; with_reducible exact H) | (have H2_ := (Option.bind_some _ _).symm.trans H; rw [hy281]; with_reducible exact H2_) | (have H2_ := (Option.bind_some _ _).symm.trans H; with_reducible exact H2_) | with_reducible exact H | (rw [hy281]; exact H) | exact H
      have Ny281 := Aside0.mk hy281
      clear hy281
      have H' := Aside0.mk H
      clear H
      go_enter Tryd.func11, Tryd.ntmps11
      try go_wp2_with (first | ((with_reducible refine gate_dst (N := 1) rfl ?_); refine box_event ?hg (N := 1) ?hd (cs := #[.int .u64 a0_0, .int .u64 a0_1, .string a0_2, .slice A0_3 l0_3.length c0_3]) (t := 26) ?hr ?_; (case hd => rfl); (case hg => rfl); (case hr => first | (go_simp; done) | (go_simp; rfl)); intro gb271 hg w12 hbox hb; have n0_ := Aside0.mk (below_step (by repeat (first | (with_reducible first | exact HB.out | apply below_alloc | apply pw_below_drewN | apply below_drew1) | exact HB.out)) hb); have n1_ := Aside0.mk (hbox); have n2_ := Aside0.mk ((by rw [hg]; exact (below_size (by repeat (first | (with_reducible first | exact HB.out | apply below_alloc | apply pw_below_drewN | apply below_drew1) | exact HB.out))) : w.heap.size ≤ gb271)); have n3_ := Aside0.mk ((by rw [hg]; exact (below_size (by repeat (first | (with_reducible first | exact HB.out | apply below_alloc | apply pw_below_drewN | apply below_drew1) | exact HB.out))) : w.heap.size ≤ gb271)); clear HB; have HB := n0_; have BK271 := n1_; have GW271 := n2_; have GE271 := n3_; clear n0_ n1_ n2_ n3_; clear hb hbox hg; have hcz13_0 : w12.cell? ⟨gb271, 0, none⟩ = some (.int .u64 a0_0) := (blk_cell BK271.out 0).trans rfl; have hcz13_1 : w12.cell? ⟨gb271, 1, none⟩ = some (.int .u64 a0_1) := (blk_cell BK271.out 1).trans rfl; have hcz13_2 : w12.cell? ⟨gb271, 2, none⟩ = some (.string a0_2) := (blk_cell BK271.out 2).trans rfl; have hcz13_3 : w12.cell? ⟨gb271, 3, none⟩ = some (.slice A0_3 l0_3.length c0_3) := (blk_cell BK271.out 3).trans rfl; have hfz13_0 := blk_frozen BK271.out 0; have hfz13_1 := blk_frozen BK271.out 1; have hfz13_2 := blk_frozen BK271.out 2; have hfz13_3 := blk_frozen BK271.out 3) | ((with_reducible refine gate_callee (f := 14) rfl ?_); refine goesL_ (some 14) rfl rfl Tryd.func14 (by kernel_rfl) rfl #[.agg #[.int .u64 a0_0, .int .u64 a0_1, .string a0_2, .slice A0_3 l0_3.length c0_3]] rfl (by (try simp only [List.map_toArray, List.map_cons, List.map_nil]); first | done | rfl | (simp only [List.length_drop, List.length_take]; rfl)) ?_; (with_reducible refine (cambistref12_Check.calls k a0_0 a0_1 a0_2 _ _ l0_3 t272 _ ?side1 ?side2 ?side3 A2.out).mono ?_); (case side1 => exact Glob.below HG.out (by repeat (first | (with_reducible first | exact HB.out | apply below_alloc | apply pw_below_drewN | apply below_drew1 | refine below_set ?_ GE271.out) | exact HB.out))); (case side2 => repeat (first | exact (Kd.C_below HR0_3.out HB.out) | (with_reducible refine Kd.C_alloc ?_ _) | (with_reducible refine Kd.C_drewN ?_ _) | (with_reducible refine Kd.C_drew ?_))); (case side3 => exact HC0_3.out); rintro e w14 ⟨rfl, hb⟩; refine ⟨_, rfl, ?_⟩; have n0_ := Aside0.mk (blk_below (g := gb271) (o := .cells #[.int .u64 a0_0, .int .u64 a0_1, .string a0_2, .slice A0_3 l0_3.length c0_3] 26 (0, 0)) (by (with_reducible repeat (first | refine blk_drewN ?_ _ | refine blk_drew ?_ | refine blk_alloc ?_ _)); exact BK271.out) hb); have n1_ := Aside0.mk (below_step (by repeat (first | (with_reducible first | exact HB.out | apply below_alloc | apply pw_below_drewN | apply below_drew1 | refine below_set ?_ GE271.out) | exact HB.out)) hb); clear BK271; clear HB; have BK271 := n0_; have HB := n1_; clear n0_ n1_; (try clear hb); (try clear hb2); (try clear hk); (try clear hi); have hcz15_0 : w14.cell? ⟨gb271, 0, none⟩ = some (.int .u64 a0_0) := (blk_cell BK271.out 0).trans rfl; have hcz15_1 : w14.cell? ⟨gb271, 1, none⟩ = some (.int .u64 a0_1) := (blk_cell BK271.out 1).trans rfl; have hcz15_2 : w14.cell? ⟨gb271, 2, none⟩ = some (.string a0_2) := (blk_cell BK271.out 2).trans rfl; have hcz15_3 : w14.cell? ⟨gb271, 3, none⟩ = some (.slice A0_3 l0_3.length c0_3) := (blk_cell BK271.out 3).trans rfl; have hfz15_0 := blk_frozen BK271.out 0; have hfz15_1 := blk_frozen BK271.out 1; have hfz15_2 := blk_frozen BK271.out 2; have hfz15_3 := blk_frozen BK271.out 3) | ((with_reducible refine gate_callee (f := 23) rfl ?_); refine goesL_ (some 18) rfl rfl Tryd.func23 (by kernel_rfl) rfl #[.int .u64 a0_0] rfl (by (try simp only [List.map_toArray, List.map_cons, List.map_nil]); first | done | rfl | (simp only [List.length_drop, List.length_take]; rfl)) ?_; (with_reducible refine (cambistref02_Digits.calls k a0_0 t273 _ ?side1 A4.out).mono ?_); (case side1 => exact Glob.below HG.out (by repeat (first | (with_reducible first | exact HB.out | apply below_alloc | apply pw_below_drewN | apply below_drew1 | refine below_set ?_ GE271.out) | exact HB.out))); rintro e w16 ⟨rfl, hb⟩; refine ⟨_, rfl, ?_⟩; have n0_ := Aside0.mk (blk_below (g := gb271) (o := .cells #[.int .u64 a0_0, .int .u64 a0_1, .string a0_2, .slice A0_3 l0_3.length c0_3] 26 (0, 0)) (by (with_reducible repeat (first | refine blk_drewN ?_ _ | refine blk_drew ?_ | refine blk_alloc ?_ _)); exact BK271.out) hb); have n1_ := Aside0.mk (below_step (by repeat (first | (with_reducible first | exact HB.out | apply below_alloc | apply pw_below_drewN | apply below_drew1 | refine below_set ?_ GE271.out) | exact HB.out)) hb); clear BK271; clear HB; have BK271 := n0_; have HB := n1_; clear n0_ n1_; (try clear hb); (try clear hb2); (try clear hk); (try clear hi)) | ((with_reducible refine gate_dst (N := 21) rfl ?_); refine Kd.R_lit Kd.string _ 9 ?hg (N := 21) ?hd (xs := ([t273, (⟨#[48]⟩ : ByteArray)] : List ByteArray)) (inner := [.string t273, .string (⟨#[48]⟩ : ByteArray)]) (ok := fun _ => True) (okp := fun _ => True) ?hr ?hp (fun _ hk => hk) trivial (Below.refl _ _) (Nat.le_refl _) (by simp) ?_; (case hd => rfl); (case hg => rfl); (case hr => first | (go_simp; done) | (go_simp; rfl)); (case hp => exact (Reps.one (show Kd.M Kd.string _ _ _ t273 [.string t273] from rfl) (Reps.one (show Kd.M Kd.string _ _ _ (⟨#[48]⟩ : ByteArray) [.string (⟨#[48]⟩ : ByteArray)] from rfl) (Reps.none _ _)))); intro v275 w17 ho18 hb hg_ hnew_; clear hg_ hnew_; (first | rw [← Ny274.out] at ho18 | (simp only [Int.reduceToNat] at ho18; rw [← Ny274.out] at ho18)); have n0_ := Aside0.mk (Kd.R_lower ho18 (below_size (by repeat (first | (with_reducible first | exact HB.out | apply below_alloc | apply pw_below_drewN | apply below_drew1 | refine below_set ?_ GE271.out) | exact HB.out)))); have n1_ := Aside0.mk (blk_below (g := gb271) (o := .cells #[.int .u64 a0_0, .int .u64 a0_1, .string a0_2, .slice A0_3 l0_3.length c0_3] 26 (0, 0)) (by (with_reducible repeat (first | refine blk_drewN ?_ _ | refine blk_drew ?_ | refine blk_alloc ?_ _)); exact BK271.out) hb); have n2_ := Aside0.mk (below_step (by repeat (first | (with_reducible first | exact HB.out | apply below_alloc | apply pw_below_drewN | apply below_drew1 | refine below_set ?_ GE271.out) | exact HB.out)) hb); clear BK271; clear HB; have HO276 := n0_; have BK271 := n1_; have HB := n2_; clear n0_ n1_ n2_; clear hb ho18; obtain ⟨Ao19, co19, eo19⟩ := Kd.R_slice HO276.out; subst eo19) | ((with_reducible refine gate_callee (f := 24) rfl ?_); refine goesL_ (some 22) rfl rfl Tryd.func24 (by kernel_rfl) rfl #[.int .u8 101, .slice Ao19 y274.length co19] rfl (by (try simp only [List.map_toArray, List.map_cons, List.map_nil]); first | done | rfl | (simp only [List.length_drop, List.length_take]; rfl)) ?_; (with_reducible refine (cambistref02_Key.calls k 101 _ _ y274 t277 t278 _ ?side1 ?side2 ?side3 A5.out).mono ?_); (case side1 => exact Glob.below HG.out (by repeat (first | (with_reducible first | exact HB.out | apply below_alloc | apply pw_below_drewN | apply below_drew1 | refine below_set ?_ GE271.out) | exact HB.out))); (case side2 => repeat (first | exact (Kd.R_reads' HO276.out).2.2 | (with_reducible refine Kd.C_alloc ?_ _) | (with_reducible refine Kd.C_drewN ?_ _) | (with_reducible refine Kd.C_drew ?_))); (case side3 => exact (Kd.R_reads' HO276.out).2.1); rintro e w20 ⟨rfl, hb⟩; refine ⟨_, rfl, ?_⟩; have n0_ := Aside0.mk (Kd.R_below (by (with_reducible repeat (first | apply Kd.R_alloc | apply Kd.R_drewN | apply Kd.R_drew)); exact HO276.out) hb); have n1_ := Aside0.mk (blk_below (g := gb271) (o := .cells #[.int .u64 a0_0, .int .u64 a0_1, .string a0_2, .slice A0_3 l0_3.length c0_3] 26 (0, 0)) (by (with_reducible repeat (first | refine blk_drewN ?_ _ | refine blk_drew ?_ | refine blk_alloc ?_ _)); exact BK271.out) hb); have n2_ := Aside0.mk (below_step (by repeat (first | (with_reducible first | exact HB.out | apply below_alloc | apply pw_below_drewN | apply below_drew1 | refine below_set ?_ GE271.out) | exact HB.out)) hb); clear HO276; clear BK271; clear HB; have HO276 := n0_; have BK271 := n1_; have HB := n2_; clear n0_ n1_ n2_; (try clear hb); (try clear hb2); (try clear hk); (try clear hi)))
      have n0_ := Aside0.mk (Kd.R_drew HO276.out)
      have n1_ := Aside0.mk (blk_drew BK271.out)
      have n2_ := Aside0.mk (below_drew1 HB.out)
      clear HO276
      clear BK271
      clear HB
      have HO276 := n0_
      have BK271 := n1_
      have HB := n2_
      clear n0_ n1_ n2_
      refine start_ (n := 17) (S := fun w' => w'.cell? ⟨gb271, 0, none⟩ = some (.int .u64 a0_0) ∧ w'.cell? ⟨gb271, 1, none⟩ = some (.int .u64 a0_1) ∧ w'.cell? ⟨gb271, 2, none⟩ = some (.string a0_2) ∧ w'.cell? ⟨gb271, 3, none⟩ = some (.slice A0_3 l0_3.length c0_3)) (ds := []) #[false, false, false, false, false, false, false, false, false, false, false, false, false, false, false, false, false] (by kernel_rfl) rfl rfl ⟨(blk_cell BK271.out 0).trans rfl, (blk_cell BK271.out 1).trans rfl, (blk_cell BK271.out 2).trans rfl, (blk_cell BK271.out 3).trans rfl⟩ (fun hHeld => ?_); refine with_tabW cambistref12_Pairs.tab5 cambistref12_Pairs.bits5 (fun HT_ HW_ => ?_)
      generalize w20.drew = w21 at HO276 BK271 HB hHeld ⊢
      refine pure_ (i := 0) (N := some 25) (v := ?_) (a' := ?_) (fl_ 17 1) rfl rfl (any_of HT_.out (by kernel_rfl)) (fun _ _ _ h => h) (Or.inl ⟨by rfl, ?_⟩) ?_ ?_
      rotate_left
      ·intro w'
       go_simp
       with_reducible rfl
      rotate_left
      ·simp only [Act.put, List.setIfInBounds_toArray, List.set_cons_zero, List.set_cons_succ, i64_w, i32_w]
       rfl
      refine pure_ (i := 1) (N := some 26) (v := ?_) (a' := ?_) (fl_ 17 3) rfl rfl (any_of HT_.out (by kernel_rfl)) (fun _ _ _ h => h) (Or.inl ⟨by rfl, ?_⟩) ?_ ?_
      rotate_left
      ·intro w'
       go_simp
       with_reducible rfl
      rotate_left
      ·simp only [Act.put, List.setIfInBounds_toArray, List.set_cons_zero, List.set_cons_succ, i64_w, i32_w]
       rfl
      refine pure_ (i := 5) (N := some 30) (v := ?_) (a' := ?_) (fl_ 17 35) rfl rfl (any_of HT_.out (by kernel_rfl)) (fun _ _ _ h => h) (Or.inl ⟨by rfl, ?_⟩) ?_ ?_
      rotate_left
      ·intro w'
       go_simp
       with_reducible rfl
      rotate_left
      ·simp only [Act.put, List.setIfInBounds_toArray, List.set_cons_zero, List.set_cons_succ, i64_w, i32_w]
       rfl
      refine pure_ (i := 9) (N := some 34) (v := ?_) (a' := ?_) (fl_ 17 547) rfl rfl (any_of HT_.out (by kernel_rfl)) (fun _ _ _ h => h) (Or.inl ⟨by rfl, ?_⟩) ?_ ?_
      rotate_left
      ·intro w'
       go_simp
       with_reducible rfl
      rotate_left
      ·simp only [Act.put, List.setIfInBounds_toArray, List.set_cons_zero, List.set_cons_succ, i64_w, i32_w]
       rfl
      refine take_ (i := 2) (N := some 27) (v := ?_) (a' := ?_) (fl_ 17 551) rfl rfl (take_ofW HT_.out HW_.out (by kernel_rfl)) (fun _ _ _ h => h) (Or.inl ⟨by rfl, ?_⟩) hHeld ?_ ?_
      rotate_left
      ·rintro w' ⟨s0, s1, s2, s3⟩
       go_simp
       with_reducible rfl
      rotate_left
      ·simp only [Act.put, List.setIfInBounds_toArray, List.set_cons_zero, List.set_cons_succ, i64_w, i32_w]
       rfl
      refine take_ (i := 6) (N := some 31) (v := ?_) (a' := ?_) (fl_ 17 615) rfl rfl (take_ofW HT_.out HW_.out (by kernel_rfl)) (fun _ _ _ h => h) (Or.inl ⟨by rfl, ?_⟩) hHeld ?_ ?_
      rotate_left
      ·rintro w' ⟨s0, s1, s2, s3⟩
       go_simp
       with_reducible rfl
      rotate_left
      ·simp only [Act.put, List.setIfInBounds_toArray, List.set_cons_zero, List.set_cons_succ, i64_w, i32_w]
       rfl
      refine take_ (i := 10) (N := some 35) (v := ?_) (a' := ?_) (fl_ 17 1639) rfl rfl (take_ofW HT_.out HW_.out (by kernel_rfl)) (fun _ _ _ h => h) (Or.inl ⟨by rfl, ?_⟩) hHeld ?_ ?_
      rotate_left
      ·rintro w' ⟨s0, s1, s2, s3⟩
       go_simp
       with_reducible rfl
      rotate_left
      ·simp only [Act.put, List.setIfInBounds_toArray, List.set_cons_zero, List.set_cons_succ, i64_w, i32_w]
       rfl
      refine pure_ (i := 11) (N := some 36) (v := ?_) (a' := ?_) (fl_ 17 3687) rfl rfl (any_of HT_.out (by kernel_rfl)) (fun _ _ _ h => h) (Or.inl ⟨by rfl, ?_⟩) ?_ ?_
      rotate_left
      ·intro w'
       go_simp
       with_reducible rfl
      rotate_left
      ·simp only [Act.put, List.setIfInBounds_toArray, List.set_cons_zero, List.set_cons_succ, i64_w, i32_w]
       rfl
      refine one_ (i := 3) (N := some 28) (fl_ 17 3695) rfl rfl (one_of HT_.out (by kernel_rfl)) (by decide) (fun K hK => ?_)
      refine goes_ Tryd.func23 (by kernel_rfl) rfl #[.int .u64 a0_1] (by rfl) rfl rfl (by (try simp only [List.map_toArray, List.map_cons, List.map_nil]); first | done | rfl | (simp only [List.length_drop, List.length_take]; rfl)) ?_
      with_reducible refine (cambistref02_Digits.calls k a0_1 t279 _ ?side1 A6.out).mono ?_
      (case side1 => exact Glob.below HG.out (by repeat (first | (with_reducible first | exact HB.out | apply below_alloc | apply pw_below_drewN | apply below_drew1 | refine below_set ?_ GE271.out) | exact HB.out)))
      rintro e w22 ⟨rfl, hb⟩
      refine ⟨_, rfl, ?_⟩
      have n0_ := Aside0.mk (Kd.R_below (by (with_reducible repeat (first | apply Kd.R_alloc | apply Kd.R_drewN | apply Kd.R_drew)); exact HO276.out) hb)
      have n1_ := Aside0.mk (blk_below (g := gb271) (o := .cells #[.int .u64 a0_0, .int .u64 a0_1, .string a0_2, .slice A0_3 l0_3.length c0_3] 26 (0, 0)) (by (with_reducible repeat (first | refine blk_drewN ?_ _ | refine blk_drew ?_ | refine blk_alloc ?_ _)); exact BK271.out) hb)
      have n2_ := Aside0.mk (below_step (by repeat (first | (with_reducible first | exact HB.out | apply below_alloc | apply pw_below_drewN | apply below_drew1 | refine below_set ?_ GE271.out) | exact HB.out)) hb)
      clear HO276
      clear BK271
      clear HB
      have HO276 := n0_
      have BK271 := n1_
      have HB := n2_
      clear n0_ n1_ n2_
      (try clear hb)
      (try clear hb2)
      (try clear hk)
      (try clear hi)
      refine hK.out _ _ ⟨(blk_cell BK271.out 0).trans rfl, (blk_cell BK271.out 1).trans rfl, (blk_cell BK271.out 2).trans rfl, (blk_cell BK271.out 3).trans rfl⟩ (fun hHeld => ?_)
      clear hK K
      refine norm_ (a' := ?_) ?_ ?_
      rotate_left
      ·show Act.put _ (some 28) _ = _
       simp only [Act.put, List.setIfInBounds_toArray, List.set_cons_zero, List.set_cons_succ, i64_w, i32_w]
       rfl
      refine pure_ (i := 4) (N := some 29) (v := ?_) (a' := ?_) (fl_ 17 3711) rfl rfl (any_of HT_.out (by kernel_rfl)) (fun _ _ _ h => h) (Or.inl ⟨by rfl, ?_⟩) ?_ ?_
      rotate_left
      ·intro w'
       go_simp
       with_reducible rfl
      rotate_left
      ·simp only [Act.put, List.setIfInBounds_toArray, List.set_cons_zero, List.set_cons_succ, i64_w, i32_w]
       rfl
      refine pure_ (i := 7) (N := some 32) (v := ?_) (a' := ?_) (fl_ 17 3839) rfl rfl (any_of HT_.out (by kernel_rfl)) (fun _ _ _ h => h) (Or.inl ⟨by rfl, ?_⟩) ?_ ?_
      rotate_left
      ·intro w'
       go_simp
       with_reducible rfl
      rotate_left
      ·simp only [Act.put, List.setIfInBounds_toArray, List.set_cons_zero, List.set_cons_succ, i64_w, i32_w]
       rfl
      refine pure_ (i := 8) (N := some 33) (v := ?_) (a' := ?_) (fl_ 17 4095) rfl rfl (any_of HT_.out (by kernel_rfl)) (fun _ _ _ h => h) (Or.inl ⟨by rfl, ?_⟩) ?_ ?_
      rotate_left
      ·intro w'
       go_simp
       with_reducible rfl
      rotate_left
      ·simp only [Act.put, List.setIfInBounds_toArray, List.set_cons_zero, List.set_cons_succ, i64_w, i32_w]
       rfl
      refine one_ (i := 12) (N := some 37) (fl_ 17 8191) rfl rfl (one_of HT_.out (by kernel_rfl)) (by decide) (fun K hK => ?_)
      refine goes_ Tryd.func25 (by kernel_rfl) rfl #[.int .i64 (l0_3.length : Int)] (by rfl) rfl rfl (by (try simp only [List.map_toArray, List.map_cons, List.map_nil]); first | done | rfl | (simp only [List.length_drop, List.length_take]; rfl)) ?_
      with_reducible refine (cambistref01_Text.calls k (l0_3.length : Int) t280 _ ?side1 A10.out).mono ?_
      (case side1 => exact Glob.below HG.out (by repeat (first | (with_reducible first | exact HB.out | apply below_alloc | apply pw_below_drewN | apply below_drew1 | refine below_set ?_ GE271.out) | exact HB.out)))
      rintro e w23 ⟨rfl, hb⟩
      refine ⟨_, rfl, ?_⟩
      have n0_ := Aside0.mk (Kd.R_below (by (with_reducible repeat (first | apply Kd.R_alloc | apply Kd.R_drewN | apply Kd.R_drew)); exact HO276.out) hb)
      have n1_ := Aside0.mk (blk_below (g := gb271) (o := .cells #[.int .u64 a0_0, .int .u64 a0_1, .string a0_2, .slice A0_3 l0_3.length c0_3] 26 (0, 0)) (by (with_reducible repeat (first | refine blk_drewN ?_ _ | refine blk_drew ?_ | refine blk_alloc ?_ _)); exact BK271.out) hb)
      have n2_ := Aside0.mk (below_step (by repeat (first | (with_reducible first | exact HB.out | apply below_alloc | apply pw_below_drewN | apply below_drew1 | refine below_set ?_ GE271.out) | exact HB.out)) hb)
      clear HO276
      clear BK271
      clear HB
      have HO276 := n0_
      have BK271 := n1_
      have HB := n2_
      clear n0_ n1_ n2_
      (try clear hb)
      (try clear hb2)
      (try clear hk)
      (try clear hi)
      refine hK.out _ _ ⟨(blk_cell BK271.out 0).trans rfl, (blk_cell BK271.out 1).trans rfl, (blk_cell BK271.out 2).trans rfl, (blk_cell BK271.out 3).trans rfl⟩ (fun hHeld => ?_)
      clear hK K
      refine norm_ (a' := ?_) ?_ ?_
      rotate_left
      ·show Act.put _ (some 37) _ = _
       simp only [Act.put, List.setIfInBounds_toArray, List.set_cons_zero, List.set_cons_succ, i64_w, i32_w]
       rfl
      refine pure_ (i := 13) (N := some 38) (v := ?_) (a' := ?_) (fl_ 17 16383) rfl rfl (any_of HT_.out (by kernel_rfl)) (fun _ _ _ h => h) (Or.inl ⟨by rfl, ?_⟩) ?_ ?_
      rotate_left
      ·intro w'
       go_simp
       with_reducible rfl
      rotate_left
      ·simp only [Act.put, List.setIfInBounds_toArray, List.set_cons_zero, List.set_cons_succ, i64_w, i32_w]
       rfl
      refine pure_ (i := 14) (N := some 39) (v := ?_) (a' := ?_) (fl_ 17 32767) rfl rfl (any_of HT_.out (by kernel_rfl)) (fun _ _ _ h => h) (Or.inl ⟨by rfl, ?_⟩) ?_ ?_
      rotate_left
      ·intro w'
       go_simp
       with_reducible rfl
      rotate_left
      ·simp only [Act.put, List.setIfInBounds_toArray, List.set_cons_zero, List.set_cons_succ, i64_w, i32_w]
       rfl
      refine one_ (i := 15) (N := some 40) (fl_ 17 65535) rfl rfl (one_of HT_.out (by kernel_rfl)) (by decide) (fun K hK => ?_)
      refine Kd.R_lit_step k36 _ 36 ?hg (N := 40) ?hd (xs := ([(⟨t277, (((t279 ++ (⟨#[124]⟩ : ByteArray)) ++ a0_2) ++ (⟨#[124]⟩ : ByteArray)) ++ t280⟩ : S36)] : List (S36))) (inner := [.string t277, .string ((((t279 ++ (⟨#[124]⟩ : ByteArray)) ++ a0_2) ++ (⟨#[124]⟩ : ByteArray)) ++ t280)]) (ok := fun _ => True) (okp := fun _ => True) ?hr ?hp (fun _ hk => hk) trivial (Below.refl _ _) (Nat.le_refl _) (by simp) ?_; (case hd => rfl); (case hg => rfl); (case hr => first | (go_simp; done) | (go_simp; rfl)); (case hp => exact (Reps.c2 (show Kd.M k36 _ _ _ (⟨t277, (((t279 ++ (⟨#[124]⟩ : ByteArray)) ++ a0_2) ++ (⟨#[124]⟩ : ByteArray)) ++ t280⟩ : S36) [.string t277, .string ((((t279 ++ (⟨#[124]⟩ : ByteArray)) ++ a0_2) ++ (⟨#[124]⟩ : ByteArray)) ++ t280)] from (k36_mkM _ _ _ (⟨t277, (((t279 ++ (⟨#[124]⟩ : ByteArray)) ++ a0_2) ++ (⟨#[124]⟩ : ByteArray)) ++ t280⟩ : S36) )) (Reps.none _ _)))
      intro v282 w24 ho25 hb hg_ hnew_
      clear hg_ hnew_
      (first | rw [← Ny281.out] at ho25 | (simp only [Int.reduceToNat] at ho25; rw [← Ny281.out] at ho25))
      have n0_ := Aside0.mk (Kd.R_below (by (with_reducible repeat (first | apply Kd.R_alloc | apply Kd.R_drewN | apply Kd.R_drew)); exact HO276.out) hb)
      have n1_ := Aside0.mk (Kd.R_lower ho25 (below_size (by repeat (first | (with_reducible first | exact HB.out | apply below_alloc | apply pw_below_drewN | apply below_drew1 | refine below_set ?_ GE271.out) | exact HB.out))))
      have n2_ := Aside0.mk (blk_below (g := gb271) (o := .cells #[.int .u64 a0_0, .int .u64 a0_1, .string a0_2, .slice A0_3 l0_3.length c0_3] 26 (0, 0)) (by (with_reducible repeat (first | refine blk_drewN ?_ _ | refine blk_drew ?_ | refine blk_alloc ?_ _)); exact BK271.out) hb)
      have n3_ := Aside0.mk (below_step (by repeat (first | (with_reducible first | exact HB.out | apply below_alloc | apply pw_below_drewN | apply below_drew1 | refine below_set ?_ GE271.out) | exact HB.out)) hb)
      clear HO276
      clear BK271
      clear HB
      have HO276 := n0_
      have HO283 := n1_
      have BK271 := n2_
      have HB := n3_
      clear n0_ n1_ n2_ n3_
      clear hb ho25
      refine hK.out _ _ ⟨(blk_cell BK271.out 0).trans rfl, (blk_cell BK271.out 1).trans rfl, (blk_cell BK271.out 2).trans rfl, (blk_cell BK271.out 3).trans rfl⟩ (fun hHeld => ?_)
      clear hK K
      refine norm_ (a' := ?_) ?_ ?_
      rotate_left
      ·show Act.put _ (some 40) _ = _
       simp only [Act.put, List.setIfInBounds_toArray, List.set_cons_zero, List.set_cons_succ, i64_w, i32_w]
       rfl
      refine pure_ (i := 16) (N := some 7) (v := ?_) (a' := ?_) (fl_ 17 131071) rfl rfl (any_of HT_.out (by kernel_rfl)) (fun _ _ _ h => h) (Or.inl ⟨by rfl, ?_⟩) ?_ ?_
      rotate_left
      ·intro w'
       go_simp
       with_reducible rfl
      rotate_left
      ·simp only [Act.put, List.setIfInBounds_toArray, List.set_cons_zero, List.set_cons_succ, i64_w, i32_w]
       rfl
      refine done_ (done_of HT_.out (by kernel_rfl)) ?_
      try go_wp2
      go_loopg [7, 8] k (fun kq v7 v8 w' => ∃ (x7_1 : List (S36)) (x8_1 : Int), v8 = .int .i64 x8_1 ∧ Aside0 (cambistref12_Pairs.l0 kq t273 x7_1 x8_1 a0_0 a0_1 a0_2 l0_3 = some (r1, r2)) ∧ Aside0 (kq ≤ k) ∧ Aside0 (Kd.R k36 36 w' w.heap.size (fun _ => True) v7 x7_1) ∧ Aside0 (w'.heap[gb271]? = some (.cells #[.int .u64 a0_0, .int .u64 a0_1, .string a0_2, (.slice A0_3 l0_3.length c0_3)] 26 (0, 0))) ∧ Aside0 (Below w.heap.size w w'))
      case atStart => exact ⟨(y281), (0), (by first | rfl | (simp; done) | (simp [*]; done)), H', ⟨Nat.le_refl _⟩, ⟨by (with_reducible repeat (first | apply Kd.R_alloc | apply Kd.R_drewN | apply Kd.R_drew)); exact HO283.out⟩, ⟨by (with_reducible repeat (first | refine blk_drewN ?_ _ | refine blk_drew ?_ | refine blk_alloc ?_ _)); exact BK271.out⟩, ⟨by repeat (first | (with_reducible first | exact HB.out | apply below_alloc | apply pw_below_drewN | apply below_drew1 | refine below_set ?_ GE271.out) | exact HB.out)⟩⟩
      case round =>
       clear H'
       try clear c1
       try clear c2
       try clear p2
       try clear c3
       try clear c3b0
       try clear c3b1
       try clear c7
       try clear c7b0
       try clear c7b1
       try clear c7b2
       try clear c8
       try clear c8b0
       try clear c8b1
       try clear c8b2
       try clear c9
       try clear c9b0
       try clear c9b1
       try clear c9b2
       try clear c11
       try clear c11b0
       try clear c11b1
       try clear c11b2
       try clear c14
       try clear c23
       try clear c24
       try clear c25
       try clear hcz13_0
       try clear hcz13_1
       try clear hcz13_2
       try clear hcz13_3
       try clear hcz15_0
       try clear hcz15_1
       try clear hcz15_2
       try clear hcz15_3
       try clear hfz13_0
       try clear hfz13_1
       try clear hfz13_2
       try clear hfz13_3
       try clear hfz15_0
       try clear hfz15_1
       try clear hfz15_2
       try clear hfz15_3
       obtain ⟨x7_1, x8_1, rfl, HA, HK1, HO_7, BK271, HB⟩ := hrel
       cases gk with
       | zero => exact absurd HA.out (by simp [cambistref12_Pairs.l0])
       | succ k1 =>
        have H := HA.out
        clear HA
        simp only [cambistref12_Pairs.l0] at H
        by_cases c26 : x8_1 < (l0_3.length : Int)
        ·rw [if_pos c26] at H
         have c26b0 : decide (x8_1 < (l0_3.length : Int)) = true := decide_eq_true c26
         clear c26
         by_cases c27 : 0 ≤ x8_1
         ·rw [if_pos c27] at H
          have c27b0 : decide (0 ≤ x8_1) = true := decide_eq_true c27
          clear c27
          replace H := Option.bind_eq_some_iff.mp H
          obtain ⟨t286, A280, H⟩ := H
          replace H : (if 12 ≤ (t286.size : Int) then (if 1 + (t286.extract 12 t286.size).size ≤ 9223372036854775807 then ((cambistref02_Key.f k1 101 (([t273, (⟨#[49]⟩ : ByteArray) ++ (t286.extract 12 t286.size)] : List ByteArray))).bind fun bt290 => (if ((rd_T42 l0_3 x8_1).f0).size + 1 ≤ 9223372036854775807 then (if (((rd_T42 l0_3 x8_1).f0) ++ (⟨#[124]⟩ : ByteArray)).size + ((rd_T42 l0_3 x8_1).f1).size ≤ 9223372036854775807 then (if ((((rd_T42 l0_3 x8_1).f0) ++ (⟨#[124]⟩ : ByteArray)) ++ ((rd_T42 l0_3 x8_1).f1)).size + 1 ≤ 9223372036854775807 then ((cambistref01_Text.f k1 ((rd_T42 l0_3 x8_1).f2)).bind fun t292 => (if (((((rd_T42 l0_3 x8_1).f0) ++ (⟨#[124]⟩ : ByteArray)) ++ ((rd_T42 l0_3 x8_1).f1)) ++ (⟨#[124]⟩ : ByteArray)).size + t292.size ≤ 9223372036854775807 then (if x7_1.length < 4398046511104 then (cambistref12_Pairs.l0 k1 t273 (x7_1 ++ [(⟨bt290.1, (((((rd_T42 l0_3 x8_1).f0) ++ (⟨#[124]⟩ : ByteArray)) ++ ((rd_T42 l0_3 x8_1).f1)) ++ (⟨#[124]⟩ : ByteArray)) ++ t292⟩ : S36)]) (wrap64 (x8_1 + 1)) a0_0 a0_1 a0_2 l0_3) else (none)) else (none))) else (none)) else (none)) else (none))) else (none)) else (none)) = some (r1, r2) := H
          have A28 := Aside0.mk A280
          clear A280
          by_cases c29 : 12 ≤ (t286.size : Int)
          ·rw [if_pos c29] at H
           have c29b0 := eq_true c29
           have c29b1 : decide (12 ≤ (t286.size : Int)) = true := decide_eq_true c29
           clear c29
           by_cases c30 : 1 + (t286.extract 12 t286.size).size ≤ 9223372036854775807
           ·rw [if_pos c30] at H
            have c30b0 := eq_true c30
            have c30b1 : decide (1 + (t286.extract 12 t286.size).size ≤ 9223372036854775807) = true := decide_eq_true c30
            try have c30b2 : (9223372036854775807 < 1 + (t286.extract 12 t286.size).size) = False := eq_false (Nat.not_lt.2 c30)
            try have c30b5 : (9223372036854775807 < 1 + (t286.size - 12)) = False := by have h_ := c30b2; simpa [ByteArray.size_append, ByteArray.size_extract] using h_
            obtain ⟨y287, hy287⟩ : ∃ y_ : List ByteArray, y_ = (([t273, (⟨#[49]⟩ : ByteArray) ++ (t286.extract 12 t286.size)] : List ByteArray)) := ⟨_, rfl⟩
            replace H : ((cambistref02_Key.f k1 101 y287).bind fun bt290 => (if ((rd_T42 l0_3 x8_1).f0).size + 1 ≤ 9223372036854775807 then (if (((rd_T42 l0_3 x8_1).f0) ++ (⟨#[124]⟩ : ByteArray)).size + ((rd_T42 l0_3 x8_1).f1).size ≤ 9223372036854775807 then (if ((((rd_T42 l0_3 x8_1).f0) ++ (⟨#[124]⟩ : ByteArray)) ++ ((rd_T42 l0_3 x8_1).f1)).size + 1 ≤ 9223372036854775807 then ((cambistref01_Text.f k1 ((rd_T42 l0_3 x8_1).f2)).bind fun t292 => (if (((((rd_T42 l0_3 x8_1).f0) ++ (⟨#[124]⟩ : ByteArray)) ++ ((rd_T42 l0_3 x8_1).f1)) ++ (⟨#[124]⟩ : ByteArray)).size + t292.size ≤ 9223372036854775807 then (if x7_1.length < 4398046511104 then (cambistref12_Pairs.l0 k1 t273 (x7_1 ++ [(⟨bt290.1, (((((rd_T42 l0_3 x8_1).f0) ++ (⟨#[124]⟩ : ByteArray)) ++ ((rd_T42 l0_3 x8_1).f1)) ++ (⟨#[124]⟩ : ByteArray)) ++ t292⟩ : S36)]) (wrap64 (x8_1 + 1)) a0_0 a0_1 a0_2 l0_3) else (none)) else (none))) else (none)) else (none)) else (none))) = some (r1, r2) := by first | (rw [hy287]; with_reducible exact H) | (have H2_ := (Option.bind_some _ _).symm.trans H; rw [hy287]; with_reducible exact H2_) | (have H2_ := (Option.bind_some _ _).symm.trans H; with_reducible exact H2_) | with_reducible exact H | (rw [hy287]; exact H) | exact H
            have Ny287 := Aside0.mk hy287
            clear hy287
            replace H := Option.bind_eq_some_iff.mp H
            obtain ⟨⟨t290, t291⟩, A310, H⟩ := H
            replace H : (if ((rd_T42 l0_3 x8_1).f0).size + 1 ≤ 9223372036854775807 then (if (((rd_T42 l0_3 x8_1).f0) ++ (⟨#[124]⟩ : ByteArray)).size + ((rd_T42 l0_3 x8_1).f1).size ≤ 9223372036854775807 then (if ((((rd_T42 l0_3 x8_1).f0) ++ (⟨#[124]⟩ : ByteArray)) ++ ((rd_T42 l0_3 x8_1).f1)).size + 1 ≤ 9223372036854775807 then ((cambistref01_Text.f k1 ((rd_T42 l0_3 x8_1).f2)).bind fun t292 => (if (((((rd_T42 l0_3 x8_1).f0) ++ (⟨#[124]⟩ : ByteArray)) ++ ((rd_T42 l0_3 x8_1).f1)) ++ (⟨#[124]⟩ : ByteArray)).size + t292.size ≤ 9223372036854775807 then (if x7_1.length < 4398046511104 then (cambistref12_Pairs.l0 k1 t273 (x7_1 ++ [(⟨t290, (((((rd_T42 l0_3 x8_1).f0) ++ (⟨#[124]⟩ : ByteArray)) ++ ((rd_T42 l0_3 x8_1).f1)) ++ (⟨#[124]⟩ : ByteArray)) ++ t292⟩ : S36)]) (wrap64 (x8_1 + 1)) a0_0 a0_1 a0_2 l0_3) else (none)) else (none))) else (none)) else (none)) else (none)) = some (r1, r2) := H
            have A31 := Aside0.mk A310
            clear A310
            by_cases c32 : ((rd_T42 l0_3 x8_1).f0).size + 1 ≤ 9223372036854775807
            ·rw [if_pos c32] at H
             have c32b0 := eq_true c32
             have c32b1 : decide (((rd_T42 l0_3 x8_1).f0).size + 1 ≤ 9223372036854775807) = true := decide_eq_true c32
             try have c32b2 : (9223372036854775807 < ((rd_T42 l0_3 x8_1).f0).size + 1) = False := eq_false (Nat.not_lt.2 c32)
             by_cases c33 : (((rd_T42 l0_3 x8_1).f0) ++ (⟨#[124]⟩ : ByteArray)).size + ((rd_T42 l0_3 x8_1).f1).size ≤ 9223372036854775807
             ·rw [if_pos c33] at H
              have c33b0 := eq_true c33
              have c33b1 : decide ((((rd_T42 l0_3 x8_1).f0) ++ (⟨#[124]⟩ : ByteArray)).size + ((rd_T42 l0_3 x8_1).f1).size ≤ 9223372036854775807) = true := decide_eq_true c33
              try have c33b2 : (9223372036854775807 < (((rd_T42 l0_3 x8_1).f0) ++ (⟨#[124]⟩ : ByteArray)).size + ((rd_T42 l0_3 x8_1).f1).size) = False := eq_false (Nat.not_lt.2 c33)
              try have c33b3 : (9223372036854775807 < ((rd_T42 l0_3 x8_1).f0).size + 1 + ((rd_T42 l0_3 x8_1).f1).size) = False := by have h_ := c33b2; simp only [ByteArray.size_append] at h_; exact h_
              by_cases c34 : ((((rd_T42 l0_3 x8_1).f0) ++ (⟨#[124]⟩ : ByteArray)) ++ ((rd_T42 l0_3 x8_1).f1)).size + 1 ≤ 9223372036854775807
              ·rw [if_pos c34] at H
               have c34b0 := eq_true c34
               have c34b1 : decide (((((rd_T42 l0_3 x8_1).f0) ++ (⟨#[124]⟩ : ByteArray)) ++ ((rd_T42 l0_3 x8_1).f1)).size + 1 ≤ 9223372036854775807) = true := decide_eq_true c34
               try have c34b2 : (9223372036854775807 < ((((rd_T42 l0_3 x8_1).f0) ++ (⟨#[124]⟩ : ByteArray)) ++ ((rd_T42 l0_3 x8_1).f1)).size + 1) = False := eq_false (Nat.not_lt.2 c34)
               try have c34b3 : (9223372036854775807 < ((rd_T42 l0_3 x8_1).f0).size + 1 + ((rd_T42 l0_3 x8_1).f1).size + 1) = False := by have h_ := c34b2; simp only [ByteArray.size_append] at h_; exact h_
               try have c34b4 : (9223372036854775807 < ((rd_T42 l0_3 x8_1).f0).size + ((rd_T42 l0_3 x8_1).f1).size + 2) = False := by have h_ := c34b3; simp only [Nat.add_assoc, Nat.reduceAdd] at h_ ⊢; exact h_
               replace H := Option.bind_eq_some_iff.mp H
               obtain ⟨t292, A350, H⟩ := H
               replace H : (if (((((rd_T42 l0_3 x8_1).f0) ++ (⟨#[124]⟩ : ByteArray)) ++ ((rd_T42 l0_3 x8_1).f1)) ++ (⟨#[124]⟩ : ByteArray)).size + t292.size ≤ 9223372036854775807 then (if x7_1.length < 4398046511104 then (cambistref12_Pairs.l0 k1 t273 (x7_1 ++ [(⟨t290, (((((rd_T42 l0_3 x8_1).f0) ++ (⟨#[124]⟩ : ByteArray)) ++ ((rd_T42 l0_3 x8_1).f1)) ++ (⟨#[124]⟩ : ByteArray)) ++ t292⟩ : S36)]) (wrap64 (x8_1 + 1)) a0_0 a0_1 a0_2 l0_3) else (none)) else (none)) = some (r1, r2) := H
               have A35 := Aside0.mk A350
               clear A350
               by_cases c36 : (((((rd_T42 l0_3 x8_1).f0) ++ (⟨#[124]⟩ : ByteArray)) ++ ((rd_T42 l0_3 x8_1).f1)) ++ (⟨#[124]⟩ : ByteArray)).size + t292.size ≤ 9223372036854775807
               ·rw [if_pos c36] at H
                have c36b0 := eq_true c36
                have c36b1 : decide ((((((rd_T42 l0_3 x8_1).f0) ++ (⟨#[124]⟩ : ByteArray)) ++ ((rd_T42 l0_3 x8_1).f1)) ++ (⟨#[124]⟩ : ByteArray)).size + t292.size ≤ 9223372036854775807) = true := decide_eq_true c36
                try have c36b2 : (9223372036854775807 < (((((rd_T42 l0_3 x8_1).f0) ++ (⟨#[124]⟩ : ByteArray)) ++ ((rd_T42 l0_3 x8_1).f1)) ++ (⟨#[124]⟩ : ByteArray)).size + t292.size) = False := eq_false (Nat.not_lt.2 c36)
                try have c36b3 : (9223372036854775807 < ((rd_T42 l0_3 x8_1).f0).size + 1 + ((rd_T42 l0_3 x8_1).f1).size + 1 + t292.size) = False := by have h_ := c36b2; simp only [ByteArray.size_append] at h_; exact h_
                try have c36b4 : (9223372036854775807 < ((rd_T42 l0_3 x8_1).f0).size + ((rd_T42 l0_3 x8_1).f1).size + t292.size + 2) = False := by have h_ := c36b3; simp only [Nat.add_assoc, Nat.reduceAdd] at h_ ⊢; exact h_
                by_cases c37 : x7_1.length < 4398046511104
                ·rw [if_pos c37] at H
                 have LMc37 := Aside0.mk c37
                 clear c37
                 obtain ⟨y293, hy293⟩ : ∃ y_ : List (S36), y_ = (x7_1 ++ [(⟨t290, (((((rd_T42 l0_3 x8_1).f0) ++ (⟨#[124]⟩ : ByteArray)) ++ ((rd_T42 l0_3 x8_1).f1)) ++ (⟨#[124]⟩ : ByteArray)) ++ t292⟩ : S36)]) := ⟨_, rfl⟩
                 replace H : (cambistref12_Pairs.l0 k1 t273 y293 (wrap64 (x8_1 + 1)) a0_0 a0_1 a0_2 l0_3) = some (r1, r2) := by first | (rw [hy293]; with_reducible exact H) | (have H2_ := (Option.bind_some _ _).symm.trans H; rw [hy293]; with_reducible exact H2_) | (have H2_ := (Option.bind_some _ _).symm.trans H; with_reducible exact H2_) | with_reducible exact H | (rw [hy293]; exact H) | exact H
                 have Ny293 := Aside0.mk hy293
                 clear hy293
                 have H' := Aside0.mk H
                 clear H
                 have hcz38_0 : wr.cell? ⟨gb271, 0, none⟩ = some (.int .u64 a0_0) := (blk_cell BK271.out 0).trans rfl
                 have hcz38_1 : wr.cell? ⟨gb271, 1, none⟩ = some (.int .u64 a0_1) := (blk_cell BK271.out 1).trans rfl
                 have hcz38_2 : wr.cell? ⟨gb271, 2, none⟩ = some (.string a0_2) := (blk_cell BK271.out 2).trans rfl
                 have hcz38_3 : wr.cell? ⟨gb271, 3, none⟩ = some (.slice A0_3 l0_3.length c0_3) := (blk_cell BK271.out 3).trans rfl
                 have hfz38_0 := blk_frozen BK271.out 0
                 have hfz38_1 := blk_frozen BK271.out 1
                 have hfz38_2 := blk_frozen BK271.out 2
                 have hfz38_3 := blk_frozen BK271.out 3
                 have p284 : 0 ≤ (x8_1 : Int) := of_decide_eq_true (by first | (with_reducible assumption) | assumption)
                 have q284 : x8_1 < (l0_3.length : Int) := of_decide_eq_true (by first | (with_reducible assumption) | assumption)
                 obtain ⟨ad284, e284, hx284_0, hx284_1, hx284_2⟩ := at_T42 HR0_3.out x8_1 p284 q284
                 cases e284
                 replace hx284_0 := (HB.out.cell (World.block_lt_of_cell? w _ hx284_0)).trans hx284_0
                 replace hx284_1 := (HB.out.cell (World.block_lt_of_cell? w _ hx284_1)).trans hx284_1
                 replace hx284_2 := (HB.out.cell (World.block_lt_of_cell? w _ hx284_2)).trans hx284_2
                 replace p284 := eq_true p284
                 replace q284 := eq_true q284
                 try go_wp2_with (first | ((with_reducible refine gate_dst (N := 9) rfl ?_); refine box_event ?hg (N := 9) ?hd (cs := #[.string (⟨#[]⟩ : ByteArray), .string (⟨#[]⟩ : ByteArray), .int .i64 0]) (t := 42) ?hr ?_; (case hd => rfl); (case hg => rfl); (case hr => first | (go_simp; done) | (go_simp; rfl)); intro gb285 hg w39 hbox hb; have n0_ := Aside0.mk (Kd.R_below (by (with_reducible repeat (first | apply Kd.R_alloc | apply Kd.R_drewN | apply Kd.R_drew)); exact HO_7.out) hb); have n1_ := Aside0.mk (blk_below (g := gb271) (o := .cells #[.int .u64 a0_0, .int .u64 a0_1, .string a0_2, .slice (some ad284) l0_3.length c0_3] 26 (0, 0)) (by (with_reducible repeat (first | refine blk_drewN ?_ _ | refine blk_drew ?_ | refine blk_alloc ?_ _)); exact BK271.out) hb); have n2_ := Aside0.mk (below_step (by repeat (first | (with_reducible first | exact HB.out | apply below_alloc | apply pw_below_drewN | apply below_drew1 | refine below_set ?_ GE271.out) | exact HB.out)) hb); have n3_ := Aside0.mk (hbox); have n4_ := Aside0.mk ((by rw [hg]; exact (below_size (by repeat (first | (with_reducible first | exact HB.out | apply below_alloc | apply pw_below_drewN | apply below_drew1 | refine below_set ?_ GE271.out) | exact HB.out))) : w.heap.size ≤ gb285)); have n5_ := Aside0.mk ((by rw [hg]; exact (below_size (by repeat (first | (with_reducible first | exact HB.out | apply below_alloc | apply pw_below_drewN | apply below_drew1 | refine below_set ?_ GE271.out) | exact HB.out))) : w.heap.size ≤ gb285)); have n6_ := Aside0.mk ((by rw [hg]; exact Nat.ne_of_lt (blk_lt (g := gb271) (o := .cells #[.int .u64 a0_0, .int .u64 a0_1, .string a0_2, .slice (some ad284) l0_3.length c0_3] 26 (0, 0)) (by (with_reducible repeat (first | refine blk_drewN ?_ _ | refine blk_drew ?_ | refine blk_alloc ?_ _)); exact BK271.out)) : gb271 ≠ gb285)); have n7_ := Aside0.mk ((by rw [hg]; exact Nat.ne_of_gt (blk_lt (g := gb271) (o := .cells #[.int .u64 a0_0, .int .u64 a0_1, .string a0_2, .slice (some ad284) l0_3.length c0_3] 26 (0, 0)) (by (with_reducible repeat (first | refine blk_drewN ?_ _ | refine blk_drew ?_ | refine blk_alloc ?_ _)); exact BK271.out)) : gb285 ≠ gb271)); clear HO_7; clear BK271; clear HB; have HO_7 := n0_; have BK271 := n1_; have HB := n2_; have BK285 := n3_; have GW285 := n4_; have GE285 := n5_; have NB271_285 := n6_; have NB285_271 := n7_; clear n0_ n1_ n2_ n3_ n4_ n5_ n6_ n7_; clear hb hbox hg; have hnb40 := NB285_271.out; have hnc40 := NB271_285.out; have hcz41_0 : w39.cell? ⟨gb285, 0, none⟩ = some (.string (⟨#[]⟩ : ByteArray)) := (blk_cell BK285.out 0).trans rfl; have hcz41_1 : w39.cell? ⟨gb285, 1, none⟩ = some (.string (⟨#[]⟩ : ByteArray)) := (blk_cell BK285.out 1).trans rfl; have hcz41_2 : w39.cell? ⟨gb285, 2, none⟩ = some (.int .i64 0) := (blk_cell BK285.out 2).trans rfl; have hfz41_0 := blk_frozen BK285.out 0; have hfz41_1 := blk_frozen BK285.out 1; have hfz41_2 := blk_frozen BK285.out 2) | ((with_reducible refine gate_callee (f := 23) rfl ?_); refine goesL_ (some 55) rfl rfl Tryd.func23 (by kernel_rfl) rfl #[.int .u64 (IntKind.u64.wrap (x8_1))] rfl (by (try simp only [List.map_toArray, List.map_cons, List.map_nil]); first | done | rfl | (simp only [List.length_drop, List.length_take]; rfl)) ?_; (with_reducible refine (cambistref02_Digits.calls k1 (IntKind.u64.wrap (x8_1)) t286 _ ?side1 A28.out).mono ?_); (case side1 => exact Glob.below HG.out (by repeat (first | (with_reducible first | exact HB.out | apply below_alloc | apply pw_below_drewN | apply below_drew1 | refine below_set ?_ GE271.out | refine below_set ?_ GE285.out) | exact HB.out))); rintro e w42 ⟨rfl, hb⟩; refine ⟨_, rfl, ?_⟩; have n0_ := Aside0.mk (Kd.R_below (by (with_reducible repeat (first | apply Kd.R_alloc | apply Kd.R_drewN | apply Kd.R_drew)); exact (Kd.R_mono (Kd.R_far (p := ⟨gb285, 2, none⟩) (Kd.R_far (p := ⟨gb285, 1, none⟩) (Kd.R_far (p := ⟨gb285, 0, none⟩) (Kd.R_types HO_7.out BK285.out (by decide)) (fun _ hk => hk.2) (.string ((rd_T42 l0_3 x8_1).f0))) (fun _ hk => hk.2) (.string ((rd_T42 l0_3 x8_1).f1))) (fun _ hk => hk.2) (.int .i64 ((rd_T42 l0_3 x8_1).f2))) (fun _ h_ => h_.1))) hb); have n1_ := Aside0.mk (blk_below (g := gb271) (o := .cells #[.int .u64 a0_0, .int .u64 a0_1, .string a0_2, .slice (some ad284) l0_3.length c0_3] 26 (0, 0)) (by (with_reducible repeat (first | refine blk_drewN ?_ _ | refine blk_drew ?_ | refine blk_alloc ?_ _)); refine blk_far ?_ NB271_285.out _; (with_reducible repeat (first | refine blk_drewN ?_ _ | refine blk_drew ?_ | refine blk_alloc ?_ _)); refine blk_far ?_ NB271_285.out _; (with_reducible repeat (first | refine blk_drewN ?_ _ | refine blk_drew ?_ | refine blk_alloc ?_ _)); refine blk_far ?_ NB271_285.out _; (with_reducible repeat (first | refine blk_drewN ?_ _ | refine blk_drew ?_ | refine blk_alloc ?_ _)); exact BK271.out) hb); have n2_ := Aside0.mk (blk_below (g := gb285) (o := .cells #[.string ((rd_T42 l0_3 x8_1).f0), .string ((rd_T42 l0_3 x8_1).f1), .int .i64 ((rd_T42 l0_3 x8_1).f2)] 42 (0, 0)) (by (with_reducible repeat (first | refine blk_drewN ?_ _ | refine blk_drew ?_ | refine blk_alloc ?_ _)); refine blk_put (cs := #[.string ((rd_T42 l0_3 x8_1).f0), .string ((rd_T42 l0_3 x8_1).f1), .int .i64 0]) ?_ 2 _ rfl; (with_reducible repeat (first | refine blk_drewN ?_ _ | refine blk_drew ?_ | refine blk_alloc ?_ _)); refine blk_put (cs := #[.string ((rd_T42 l0_3 x8_1).f0), .string (⟨#[]⟩ : ByteArray), .int .i64 0]) ?_ 1 _ rfl; (with_reducible repeat (first | refine blk_drewN ?_ _ | refine blk_drew ?_ | refine blk_alloc ?_ _)); refine blk_put (cs := #[.string (⟨#[]⟩ : ByteArray), .string (⟨#[]⟩ : ByteArray), .int .i64 0]) ?_ 0 _ rfl; (with_reducible repeat (first | refine blk_drewN ?_ _ | refine blk_drew ?_ | refine blk_alloc ?_ _)); exact BK285.out) hb); have n3_ := Aside0.mk (below_step (by repeat (first | (with_reducible first | exact HB.out | apply below_alloc | apply pw_below_drewN | apply below_drew1 | refine below_set ?_ GE271.out | refine below_set ?_ GE285.out) | exact HB.out)) hb); clear HO_7; clear BK271; clear BK285; clear HB; have HO_7 := n0_; have BK271 := n1_; have BK285 := n2_; have HB := n3_; clear n0_ n1_ n2_ n3_; (try clear hb); (try clear hb2); (try clear hk); (try clear hi)) | ((with_reducible refine gate_dst (N := 61) rfl ?_); refine Kd.R_lit Kd.string _ 9 ?hg (N := 61) ?hd (xs := ([t273, (⟨#[49]⟩ : ByteArray) ++ (t286.extract 12 t286.size)] : List ByteArray)) (inner := [.string t273, .string ((⟨#[49]⟩ : ByteArray) ++ (t286.extract 12 t286.size))]) (ok := fun _ => True) (okp := fun _ => True) ?hr ?hp (fun _ hk => hk) trivial (Below.refl _ _) (Nat.le_refl _) (by simp) ?_; (case hd => rfl); (case hg => rfl); (case hr => first | (go_simp; done) | (go_simp; rfl)); (case hp => exact (Reps.one (show Kd.M Kd.string _ _ _ t273 [.string t273] from rfl) (Reps.one (show Kd.M Kd.string _ _ _ ((⟨#[49]⟩ : ByteArray) ++ (t286.extract 12 t286.size)) [.string ((⟨#[49]⟩ : ByteArray) ++ (t286.extract 12 t286.size))] from rfl) (Reps.none _ _)))); intro v288 w43 ho44 hb hg_ hnew_; clear hg_ hnew_; (first | rw [← Ny287.out] at ho44 | (simp only [Int.reduceToNat] at ho44; rw [← Ny287.out] at ho44)); have n0_ := Aside0.mk (Kd.R_below (by (with_reducible repeat (first | apply Kd.R_alloc | apply Kd.R_drewN | apply Kd.R_drew)); exact HO_7.out) hb); have n1_ := Aside0.mk (Kd.R_lower ho44 (below_size (by repeat (first | (with_reducible first | exact HB.out | apply below_alloc | apply pw_below_drewN | apply below_drew1 | refine below_set ?_ GE271.out | refine below_set ?_ GE285.out) | exact HB.out)))); have n2_ := Aside0.mk (blk_below (g := gb271) (o := .cells #[.int .u64 a0_0, .int .u64 a0_1, .string a0_2, .slice (some ad284) l0_3.length c0_3] 26 (0, 0)) (by (with_reducible repeat (first | refine blk_drewN ?_ _ | refine blk_drew ?_ | refine blk_alloc ?_ _)); exact BK271.out) hb); have n3_ := Aside0.mk (blk_below (g := gb285) (o := .cells #[.string ((rd_T42 l0_3 x8_1).f0), .string ((rd_T42 l0_3 x8_1).f1), .int .i64 ((rd_T42 l0_3 x8_1).f2)] 42 (0, 0)) (by (with_reducible repeat (first | refine blk_drewN ?_ _ | refine blk_drew ?_ | refine blk_alloc ?_ _)); exact BK285.out) hb); have n4_ := Aside0.mk (below_step (by repeat (first | (with_reducible first | exact HB.out | apply below_alloc | apply pw_below_drewN | apply below_drew1 | refine below_set ?_ GE271.out | refine below_set ?_ GE285.out) | exact HB.out)) hb); clear HO_7; clear BK271; clear BK285; clear HB; have HO_7 := n0_; have HO289 := n1_; have BK271 := n2_; have BK285 := n3_; have HB := n4_; clear n0_ n1_ n2_ n3_ n4_; clear hb ho44; obtain ⟨Ao45, co45, eo45⟩ := Kd.R_slice HO289.out; subst eo45) | ((with_reducible refine gate_callee (f := 24) rfl ?_); refine goesL_ (some 62) rfl rfl Tryd.func24 (by kernel_rfl) rfl #[.int .u8 101, .slice Ao45 y287.length co45] rfl (by (try simp only [List.map_toArray, List.map_cons, List.map_nil]); first | done | rfl | (simp only [List.length_drop, List.length_take]; rfl)) ?_; (with_reducible refine (cambistref02_Key.calls k1 101 _ _ y287 t290 t291 _ ?side1 ?side2 ?side3 A31.out).mono ?_); (case side1 => exact Glob.below HG.out (by repeat (first | (with_reducible first | exact HB.out | apply below_alloc | apply pw_below_drewN | apply below_drew1 | refine below_set ?_ GE271.out | refine below_set ?_ GE285.out) | exact HB.out))); (case side2 => repeat (first | exact (Kd.R_reads' HO289.out).2.2 | (with_reducible refine Kd.C_alloc ?_ _) | (with_reducible refine Kd.C_drewN ?_ _) | (with_reducible refine Kd.C_drew ?_))); (case side3 => exact (Kd.R_reads' HO289.out).2.1); rintro e w46 ⟨rfl, hb⟩; refine ⟨_, rfl, ?_⟩; have n0_ := Aside0.mk (Kd.R_below (by (with_reducible repeat (first | apply Kd.R_alloc | apply Kd.R_drewN | apply Kd.R_drew)); exact HO_7.out) hb); have n1_ := Aside0.mk (Kd.R_below (by (with_reducible repeat (first | apply Kd.R_alloc | apply Kd.R_drewN | apply Kd.R_drew)); exact HO289.out) hb); have n2_ := Aside0.mk (blk_below (g := gb271) (o := .cells #[.int .u64 a0_0, .int .u64 a0_1, .string a0_2, .slice (some ad284) l0_3.length c0_3] 26 (0, 0)) (by (with_reducible repeat (first | refine blk_drewN ?_ _ | refine blk_drew ?_ | refine blk_alloc ?_ _)); exact BK271.out) hb); have n3_ := Aside0.mk (blk_below (g := gb285) (o := .cells #[.string ((rd_T42 l0_3 x8_1).f0), .string ((rd_T42 l0_3 x8_1).f1), .int .i64 ((rd_T42 l0_3 x8_1).f2)] 42 (0, 0)) (by (with_reducible repeat (first | refine blk_drewN ?_ _ | refine blk_drew ?_ | refine blk_alloc ?_ _)); exact BK285.out) hb); have n4_ := Aside0.mk (below_step (by repeat (first | (with_reducible first | exact HB.out | apply below_alloc | apply pw_below_drewN | apply below_drew1 | refine below_set ?_ GE271.out | refine below_set ?_ GE285.out) | exact HB.out)) hb); clear HO_7; clear HO289; clear BK271; clear BK285; clear HB; have HO_7 := n0_; have HO289 := n1_; have BK271 := n2_; have BK285 := n3_; have HB := n4_; clear n0_ n1_ n2_ n3_ n4_; (try clear hb); (try clear hb2); (try clear hk); (try clear hi)))
                 have n0_ := Aside0.mk (Kd.R_drew HO_7.out)
                 have n1_ := Aside0.mk (Kd.R_drew HO289.out)
                 have n2_ := Aside0.mk (blk_drew BK271.out)
                 have n3_ := Aside0.mk (blk_drew BK285.out)
                 have n4_ := Aside0.mk (below_drew1 HB.out)
                 clear HO_7
                 clear HO289
                 clear BK271
                 clear BK285
                 clear HB
                 have HO_7 := n0_
                 have HO289 := n1_
                 have BK271 := n2_
                 have BK285 := n3_
                 have HB := n4_
                 clear n0_ n1_ n2_ n3_ n4_
                 refine start_ (n := 17) (S := fun w' => w'.cell? ⟨gb285, 0, none⟩ = some (.string ((rd_T42 l0_3 x8_1).f0)) ∧ w'.cell? ⟨gb285, 1, none⟩ = some (.string ((rd_T42 l0_3 x8_1).f1)) ∧ w'.cell? ⟨gb285, 2, none⟩ = some (.int .i64 ((rd_T42 l0_3 x8_1).f2))) (ds := []) #[false, false, false, false, false, false, false, false, false, false, false, false, false, false, false, false, false] (by kernel_rfl) rfl rfl ⟨(blk_cell BK285.out 0).trans rfl, (blk_cell BK285.out 1).trans rfl, (blk_cell BK285.out 2).trans rfl⟩ (fun hHeld => ?_); refine with_tabW cambistref12_Pairs.tab12 cambistref12_Pairs.bits12 (fun HT_ HW_ => ?_)
                 generalize w46.drew = w47 at HO_7 HO289 BK271 BK285 HB hHeld ⊢
                 refine pure_ (i := 0) (N := some 65) (v := ?_) (a' := ?_) (fl_ 17 1) rfl rfl (any_of HT_.out (by kernel_rfl)) (fun _ _ _ h => h) (Or.inl ⟨by rfl, ?_⟩) ?_ ?_
                 rotate_left
                 ·intro w'
                  go_simp
                  with_reducible rfl
                 rotate_left
                 ·simp only [Act.put, List.setIfInBounds_toArray, List.set_cons_zero, List.set_cons_succ, i64_w, i32_w]
                  rfl
                 refine pure_ (i := 1) (N := some 66) (v := ?_) (a' := ?_) (fl_ 17 3) rfl rfl (any_of HT_.out (by kernel_rfl)) (fun _ _ _ h => h) (Or.inl ⟨by rfl, ?_⟩) ?_ ?_
                 rotate_left
                 ·intro w'
                  go_simp
                  with_reducible rfl
                 rotate_left
                 ·simp only [Act.put, List.setIfInBounds_toArray, List.set_cons_zero, List.set_cons_succ, i64_w, i32_w]
                  rfl
                 refine pure_ (i := 2) (N := some 67) (v := ?_) (a' := ?_) (fl_ 17 7) rfl rfl (any_of HT_.out (by kernel_rfl)) (fun _ _ _ h => h) (Or.inl ⟨by rfl, ?_⟩) ?_ ?_
                 rotate_left
                 ·intro w'
                  go_simp
                  with_reducible rfl
                 rotate_left
                 ·simp only [Act.put, List.setIfInBounds_toArray, List.set_cons_zero, List.set_cons_succ, i64_w, i32_w]
                  rfl
                 refine pure_ (i := 5) (N := some 70) (v := ?_) (a' := ?_) (fl_ 17 39) rfl rfl (any_of HT_.out (by kernel_rfl)) (fun _ _ _ h => h) (Or.inl ⟨by rfl, ?_⟩) ?_ ?_
                 rotate_left
                 ·intro w'
                  go_simp
                  with_reducible rfl
                 rotate_left
                 ·simp only [Act.put, List.setIfInBounds_toArray, List.set_cons_zero, List.set_cons_succ, i64_w, i32_w]
                  rfl
                 refine pure_ (i := 9) (N := some 74) (v := ?_) (a' := ?_) (fl_ 17 551) rfl rfl (any_of HT_.out (by kernel_rfl)) (fun _ _ _ h => h) (Or.inl ⟨by rfl, ?_⟩) ?_ ?_
                 rotate_left
                 ·intro w'
                  go_simp
                  with_reducible rfl
                 rotate_left
                 ·simp only [Act.put, List.setIfInBounds_toArray, List.set_cons_zero, List.set_cons_succ, i64_w, i32_w]
                  rfl
                 refine take_ (i := 3) (N := some 68) (v := ?_) (a' := ?_) (fl_ 17 559) rfl rfl (take_ofW HT_.out HW_.out (by kernel_rfl)) (fun _ _ _ h => h) (Or.inl ⟨by rfl, ?_⟩) hHeld ?_ ?_
                 rotate_left
                 ·rintro w' ⟨s0, s1, s2⟩
                  go_simp
                  with_reducible rfl
                 rotate_left
                 ·simp only [Act.put, List.setIfInBounds_toArray, List.set_cons_zero, List.set_cons_succ, i64_w, i32_w]
                  rfl
                 refine pure_ (i := 4) (N := some 69) (v := ?_) (a' := ?_) (fl_ 17 575) rfl rfl (any_of HT_.out (by kernel_rfl)) (fun _ _ _ h => h) (Or.inl ⟨by rfl, ?_⟩) ?_ ?_
                 rotate_left
                 ·intro w'
                  go_simp
                  with_reducible rfl
                 rotate_left
                 ·simp only [Act.put, List.setIfInBounds_toArray, List.set_cons_zero, List.set_cons_succ, i64_w, i32_w]
                  rfl
                 refine take_ (i := 6) (N := some 71) (v := ?_) (a' := ?_) (fl_ 17 639) rfl rfl (take_ofW HT_.out HW_.out (by kernel_rfl)) (fun _ _ _ h => h) (Or.inl ⟨by rfl, ?_⟩) hHeld ?_ ?_
                 rotate_left
                 ·rintro w' ⟨s0, s1, s2⟩
                  go_simp
                  with_reducible rfl
                 rotate_left
                 ·simp only [Act.put, List.setIfInBounds_toArray, List.set_cons_zero, List.set_cons_succ, i64_w, i32_w]
                  rfl
                 refine pure_ (i := 7) (N := some 72) (v := ?_) (a' := ?_) (fl_ 17 767) rfl rfl (any_of HT_.out (by kernel_rfl)) (fun _ _ _ h => h) (Or.inl ⟨by rfl, ?_⟩) ?_ ?_
                 rotate_left
                 ·intro w'
                  go_simp
                  with_reducible rfl
                 rotate_left
                 ·simp only [Act.put, List.setIfInBounds_toArray, List.set_cons_zero, List.set_cons_succ, i64_w, i32_w]
                  rfl
                 refine pure_ (i := 8) (N := some 73) (v := ?_) (a' := ?_) (fl_ 17 1023) rfl rfl (any_of HT_.out (by kernel_rfl)) (fun _ _ _ h => h) (Or.inl ⟨by rfl, ?_⟩) ?_ ?_
                 rotate_left
                 ·intro w'
                  go_simp
                  with_reducible rfl
                 rotate_left
                 ·simp only [Act.put, List.setIfInBounds_toArray, List.set_cons_zero, List.set_cons_succ, i64_w, i32_w]
                  rfl
                 refine take_ (i := 10) (N := some 75) (v := ?_) (a' := ?_) (fl_ 17 2047) rfl rfl (take_ofW HT_.out HW_.out (by kernel_rfl)) (fun _ _ _ h => h) (Or.inl ⟨by rfl, ?_⟩) hHeld ?_ ?_
                 rotate_left
                 ·rintro w' ⟨s0, s1, s2⟩
                  go_simp
                  with_reducible rfl
                 rotate_left
                 ·simp only [Act.put, List.setIfInBounds_toArray, List.set_cons_zero, List.set_cons_succ, i64_w, i32_w]
                  rfl
                 refine one_ (i := 11) (N := some 76) (fl_ 17 4095) rfl rfl (one_of HT_.out (by kernel_rfl)) (by decide) (fun K hK => ?_)
                 refine goes_ Tryd.func25 (by kernel_rfl) rfl #[.int .i64 ((rd_T42 l0_3 x8_1).f2)] (by rfl) rfl rfl (by (try simp only [List.map_toArray, List.map_cons, List.map_nil]); first | done | rfl | (simp only [List.length_drop, List.length_take]; rfl)) ?_
                 with_reducible refine (cambistref01_Text.calls k1 ((rd_T42 l0_3 x8_1).f2) t292 _ ?side1 A35.out).mono ?_
                 (case side1 => exact Glob.below HG.out (by repeat (first | (with_reducible first | exact HB.out | apply below_alloc | apply pw_below_drewN | apply below_drew1 | refine below_set ?_ GE271.out | refine below_set ?_ GE285.out) | exact HB.out)))
                 rintro e w48 ⟨rfl, hb⟩
                 refine ⟨_, rfl, ?_⟩
                 have n0_ := Aside0.mk (Kd.R_below (by (with_reducible repeat (first | apply Kd.R_alloc | apply Kd.R_drewN | apply Kd.R_drew)); exact HO_7.out) hb)
                 have n1_ := Aside0.mk (Kd.R_below (by (with_reducible repeat (first | apply Kd.R_alloc | apply Kd.R_drewN | apply Kd.R_drew)); exact HO289.out) hb)
                 have n2_ := Aside0.mk (blk_below (g := gb271) (o := .cells #[.int .u64 a0_0, .int .u64 a0_1, .string a0_2, .slice (some ad284) l0_3.length c0_3] 26 (0, 0)) (by (with_reducible repeat (first | refine blk_drewN ?_ _ | refine blk_drew ?_ | refine blk_alloc ?_ _)); exact BK271.out) hb)
                 have n3_ := Aside0.mk (blk_below (g := gb285) (o := .cells #[.string ((rd_T42 l0_3 x8_1).f0), .string ((rd_T42 l0_3 x8_1).f1), .int .i64 ((rd_T42 l0_3 x8_1).f2)] 42 (0, 0)) (by (with_reducible repeat (first | refine blk_drewN ?_ _ | refine blk_drew ?_ | refine blk_alloc ?_ _)); exact BK285.out) hb)
                 have n4_ := Aside0.mk (below_step (by repeat (first | (with_reducible first | exact HB.out | apply below_alloc | apply pw_below_drewN | apply below_drew1 | refine below_set ?_ GE271.out | refine below_set ?_ GE285.out) | exact HB.out)) hb)
                 clear HO_7
                 clear HO289
                 clear BK271
                 clear BK285
                 clear HB
                 have HO_7 := n0_
                 have HO289 := n1_
                 have BK271 := n2_
                 have BK285 := n3_
                 have HB := n4_
                 clear n0_ n1_ n2_ n3_ n4_
                 (try clear hb)
                 (try clear hb2)
                 (try clear hk)
                 (try clear hi)
                 refine hK.out _ _ ⟨(blk_cell BK285.out 0).trans rfl, (blk_cell BK285.out 1).trans rfl, (blk_cell BK285.out 2).trans rfl⟩ (fun hHeld => ?_)
                 clear hK K
                 refine norm_ (a' := ?_) ?_ ?_
                 rotate_left
                 ·show Act.put _ (some 76) _ = _
                  simp only [Act.put, List.setIfInBounds_toArray, List.set_cons_zero, List.set_cons_succ, i64_w, i32_w]
                  rfl
                 refine pure_ (i := 12) (N := some 77) (v := ?_) (a' := ?_) (fl_ 17 8191) rfl rfl (any_of HT_.out (by kernel_rfl)) (fun _ _ _ h => h) (Or.inl ⟨by rfl, ?_⟩) ?_ ?_
                 rotate_left
                 ·intro w'
                  go_simp
                  with_reducible rfl
                 rotate_left
                 ·simp only [Act.put, List.setIfInBounds_toArray, List.set_cons_zero, List.set_cons_succ, i64_w, i32_w]
                  rfl
                 refine pure_ (i := 13) (N := some 78) (v := ?_) (a' := ?_) (fl_ 17 16383) rfl rfl (any_of HT_.out (by kernel_rfl)) (fun _ _ _ h => h) (Or.inl ⟨by rfl, ?_⟩) ?_ ?_
                 rotate_left
                 ·intro w'
                  go_simp
                  with_reducible rfl
                 rotate_left
                 ·simp only [Act.put, List.setIfInBounds_toArray, List.set_cons_zero, List.set_cons_succ, i64_w, i32_w]
                  rfl
                 refine one_ (i := 14) (N := some 79) (fl_ 17 32767) rfl rfl (one_of HT_.out (by kernel_rfl)) (by decide) (fun K hK => ?_)
                 refine value_ (w1 := ?_) (v := ?_) (by rfl) rfl ?_ ?_
                 rotate_left 2
                 ·go_simp
                  constructor
                  ·rfl
                  ·rfl
                 refine hK.out _ _ ⟨(blk_cell (blk_alloc BK285.out _) 0).trans rfl, (blk_cell (blk_alloc BK285.out _) 1).trans rfl, (blk_cell (blk_alloc BK285.out _) 2).trans rfl⟩ (fun hHeld => ?_)
                 clear hK K
                 refine norm_ (a' := ?_) ?_ ?_
                 rotate_left
                 ·show Act.put _ (some 79) _ = _
                  simp only [Act.put, List.setIfInBounds_toArray, List.set_cons_zero, List.set_cons_succ, i64_w, i32_w]
                  rfl
                 refine one_ (i := 15) (N := some 80) (fl_ 17 65535) rfl rfl (one_of HT_.out (by kernel_rfl)) (by decide) (fun K hK => ?_)
                 refine Kd.R_append_step k36 (w0 := w) w.heap.size (by rfl) (.tmp 65) (.tmp 79) 28 36 (.agg #[(.string ⟨#[]⟩), (.string ⟨#[]⟩)]) 32 rfl Tryd.underlying28 info36 rfl (by decide) (by omega) u7 x7_1 (⟨t290, (((((rd_T42 l0_3 x8_1).f0) ++ (⟨#[124]⟩ : ByteArray)) ++ ((rd_T42 l0_3 x8_1).f1)) ++ (⟨#[124]⟩ : ByteArray)) ++ t292⟩ : S36) [.string t290, .string ((((((rd_T42 l0_3 x8_1).f0) ++ (⟨#[124]⟩ : ByteArray)) ++ ((rd_T42 l0_3 x8_1).f1)) ++ (⟨#[124]⟩ : ByteArray)) ++ t292)] (fun _ => True) (fun _ => False) rfl rfl ?aP (fun _ hk => hk.elim) ?aF ?aO ?aB ?aS ?aL ?_
                 (case aP => exact k36_mkM _ _ _ (⟨t290, (((((rd_T42 l0_3 x8_1).f0) ++ (⟨#[124]⟩ : ByteArray)) ++ ((rd_T42 l0_3 x8_1).f1)) ++ (⟨#[124]⟩ : ByteArray)) ++ t292⟩ : S36))
                 (case aB => exact (by repeat (first | (with_reducible first | exact HB.out | apply below_alloc | apply pw_below_drewN | apply below_drew1 | refine below_set ?_ GE271.out | refine below_set ?_ GE285.out) | exact HB.out)))
                 (case aF => exact (fun _ _ => trivial))
                 (case aO => exact (by (with_reducible repeat (first | apply Kd.R_alloc | apply Kd.R_drewN | apply Kd.R_drew)); exact HO_7.out))
                 (case aS => exact (below_size (by repeat (first | (with_reducible first | exact HB.out | apply below_alloc | apply pw_below_drewN | apply below_drew1 | refine below_set ?_ GE271.out | refine below_set ?_ GE285.out) | exact HB.out))))
                 (case aL => have := LMc37.out; omega)
                 intro v294 w49 ho hb hg hat
                 rw [← Ny293.out] at ho
                 have n0_ := Aside0.mk (blk_grown (g := gb271) (o := .cells #[.int .u64 a0_0, .int .u64 a0_1, .string a0_2, .slice (some ad284) l0_3.length c0_3] 26 (0, 0)) (by (with_reducible repeat (first | refine blk_drewN ?_ _ | refine blk_drew ?_ | refine blk_alloc ?_ _)); exact BK271.out) hg (Kd.R_ne HO_7.out BK271.out (by decide)))
                 have n1_ := Aside0.mk (blk_grown (g := gb285) (o := .cells #[.string ((rd_T42 l0_3 x8_1).f0), .string ((rd_T42 l0_3 x8_1).f1), .int .i64 ((rd_T42 l0_3 x8_1).f2)] 42 (0, 0)) (by (with_reducible repeat (first | refine blk_drewN ?_ _ | refine blk_drew ?_ | refine blk_alloc ?_ _)); exact BK285.out) hg (Kd.R_ne HO_7.out BK285.out (by decide)))
                 have n2_ := Aside0.mk (Kd.R_over' (by (with_reducible repeat (first | apply Kd.R_alloc | apply Kd.R_drewN | apply Kd.R_drew)); exact HO289.out) (Kd.R_typed (by (with_reducible repeat (first | apply Kd.R_alloc | apply Kd.R_drewN | apply Kd.R_drew)); exact HO_7.out)) (by decide) hg)
                 have n3_ := Aside0.mk (hb)
                 have n4_ := Aside0.mk (ho)
                 clear BK271
                 clear BK285
                 clear HO289
                 clear HB
                 clear HO_7
                 have BK271 := n0_
                 have BK285 := n1_
                 have HO289 := n2_
                 have HB := n3_
                 have HO295 := n4_
                 clear n0_ n1_ n2_ n3_ n4_
                 clear ho hb hg hat
                 refine hK.out _ _ ⟨(blk_cell BK285.out 0).trans rfl, (blk_cell BK285.out 1).trans rfl, (blk_cell BK285.out 2).trans rfl⟩ (fun hHeld => ?_)
                 clear hK K
                 refine norm_ (a' := ?_) ?_ ?_
                 rotate_left
                 ·show Act.put _ (some 80) _ = _
                  simp only [Act.put, List.setIfInBounds_toArray, List.set_cons_zero, List.set_cons_succ, i64_w, i32_w]
                  rfl
                 refine pure_ (i := 16) (N := some 7) (v := ?_) (a' := ?_) (fl_ 17 131071) rfl rfl (any_of HT_.out (by kernel_rfl)) (fun _ _ _ h => h) (Or.inl ⟨by rfl, ?_⟩) ?_ ?_
                 rotate_left
                 ·intro w'
                  go_simp
                  with_reducible rfl
                 rotate_left
                 ·simp only [Act.put, List.setIfInBounds_toArray, List.set_cons_zero, List.set_cons_succ, i64_w, i32_w]
                  rfl
                 refine done_ (done_of HT_.out (by kernel_rfl)) ?_
                 try go_wp2
                 go_roundg k1
                 case measure => have := HK1.out; omega
                 case rel => exact ⟨(y293), (wrap64 (x8_1 + 1)), (by first | rfl | (simp; done) | (simp [*]; done)), H', ⟨by have := HK1.out; omega⟩, ⟨by (with_reducible repeat (first | apply Kd.R_alloc | apply Kd.R_drewN | apply Kd.R_drew)); exact HO295.out⟩, ⟨by (with_reducible repeat (first | refine blk_drewN ?_ _ | refine blk_drew ?_ | refine blk_alloc ?_ _)); exact BK271.out⟩, ⟨by repeat (first | (with_reducible first | exact HB.out | apply below_alloc | apply pw_below_drewN | apply below_drew1 | refine below_set ?_ GE271.out | refine below_set ?_ GE285.out) | exact HB.out)⟩⟩
                ·rw [if_neg c37] at H
                 exact absurd H (by simp)
               ·rw [if_neg c36] at H
                exact absurd H (by simp)
              ·rw [if_neg c34] at H
               exact absurd H (by simp)
             ·rw [if_neg c33] at H
              exact absurd H (by simp)
            ·rw [if_neg c32] at H
             exact absurd H (by simp)
           ·rw [if_neg c30] at H
            exact absurd H (by simp)
          ·rw [if_neg c29] at H
           exact absurd H (by simp)
         ·rw [if_neg c27] at H
          exact absurd H (by simp)
        ·rw [if_neg c26] at H
         have c26b0 : decide (x8_1 < (l0_3.length : Int)) = false := decide_eq_false c26
         clear c26
         simp only [Option.some.injEq, Prod.mk.injEq] at H
         obtain ⟨rfl, rfl⟩ := H
         have hcz50_0 : wr.cell? ⟨gb271, 0, none⟩ = some (.int .u64 a0_0) := (blk_cell BK271.out 0).trans rfl
         have hcz50_1 : wr.cell? ⟨gb271, 1, none⟩ = some (.int .u64 a0_1) := (blk_cell BK271.out 1).trans rfl
         have hcz50_2 : wr.cell? ⟨gb271, 2, none⟩ = some (.string a0_2) := (blk_cell BK271.out 2).trans rfl
         have hcz50_3 : wr.cell? ⟨gb271, 3, none⟩ = some (.slice A0_3 l0_3.length c0_3) := (blk_cell BK271.out 3).trans rfl
         have hfz50_0 := blk_frozen BK271.out 0
         have hfz50_1 := blk_frozen BK271.out 1
         have hfz50_2 := blk_frozen BK271.out 2
         have hfz50_3 := blk_frozen BK271.out 3
         go_wp2
         go_ret2
         exact ⟨_, by first | rfl | (simp [errW_none, errW_some] <;> rfl) | (simp [*, errW_none, errW_some] <;> rfl), by (with_reducible repeat (first | apply Kd.R_alloc | apply Kd.R_drewN | apply Kd.R_drew)); exact HO_7.out, by repeat (first | (with_reducible first | exact HB.out | apply below_alloc | apply pw_below_drewN | apply below_drew1 | refine below_set ?_ GE271.out) | exact HB.out)⟩
     ·rw [if_neg c11] at H
      exact absurd H (by simp)
    ·rw [if_neg c9] at H
     exact absurd H (by simp)
   ·rw [if_neg c8] at H
    exact absurd H (by simp)
  ·rw [if_neg c7] at H
   exact absurd H (by simp)
 ·rw [if_neg c3] at H
  have c3b0 : (t272 == 0) = false := beq_eq_false_iff_ne.mpr c3
  have c3b1 : (t272 != 0) = true := bne_iff_ne.mpr c3
  simp only [Option.some.injEq, Prod.mk.injEq] at H
  obtain ⟨rfl, rfl⟩ := H
  go_enter Tryd.func11, Tryd.ntmps11
  go_wp2_with (first | ((with_reducible refine gate_dst (N := 1) rfl ?_); refine box_event ?hg (N := 1) ?hd (cs := #[.int .u64 a0_0, .int .u64 a0_1, .string a0_2, .slice A0_3 l0_3.length c0_3]) (t := 26) ?hr ?_; (case hd => rfl); (case hg => rfl); (case hr => first | (go_simp; done) | (go_simp; rfl)); intro gb271 hg w51 hbox hb; have n0_ := Aside0.mk (below_step (by repeat (first | (with_reducible first | exact HB.out | apply below_alloc | apply pw_below_drewN | apply below_drew1) | exact HB.out)) hb); have n1_ := Aside0.mk (hbox); have n2_ := Aside0.mk ((by rw [hg]; exact (below_size (by repeat (first | (with_reducible first | exact HB.out | apply below_alloc | apply pw_below_drewN | apply below_drew1) | exact HB.out))) : w.heap.size ≤ gb271)); have n3_ := Aside0.mk ((by rw [hg]; exact (below_size (by repeat (first | (with_reducible first | exact HB.out | apply below_alloc | apply pw_below_drewN | apply below_drew1) | exact HB.out))) : w.heap.size ≤ gb271)); clear HB; have HB := n0_; have BK271 := n1_; have GW271 := n2_; have GE271 := n3_; clear n0_ n1_ n2_ n3_; clear hb hbox hg; have hcz52_0 : w51.cell? ⟨gb271, 0, none⟩ = some (.int .u64 a0_0) := (blk_cell BK271.out 0).trans rfl; have hcz52_1 : w51.cell? ⟨gb271, 1, none⟩ = some (.int .u64 a0_1) := (blk_cell BK271.out 1).trans rfl; have hcz52_2 : w51.cell? ⟨gb271, 2, none⟩ = some (.string a0_2) := (blk_cell BK271.out 2).trans rfl; have hcz52_3 : w51.cell? ⟨gb271, 3, none⟩ = some (.slice A0_3 l0_3.length c0_3) := (blk_cell BK271.out 3).trans rfl; have hfz52_0 := blk_frozen BK271.out 0; have hfz52_1 := blk_frozen BK271.out 1; have hfz52_2 := blk_frozen BK271.out 2; have hfz52_3 := blk_frozen BK271.out 3) | ((with_reducible refine gate_callee (f := 14) rfl ?_); refine goesL_ (some 14) rfl rfl Tryd.func14 (by kernel_rfl) rfl #[.agg #[.int .u64 a0_0, .int .u64 a0_1, .string a0_2, .slice A0_3 l0_3.length c0_3]] rfl (by (try simp only [List.map_toArray, List.map_cons, List.map_nil]); first | done | rfl | (simp only [List.length_drop, List.length_take]; rfl)) ?_; (with_reducible refine (cambistref12_Check.calls k a0_0 a0_1 a0_2 _ _ l0_3 t272 _ ?side1 ?side2 ?side3 A2.out).mono ?_); (case side1 => exact Glob.below HG.out (by repeat (first | (with_reducible first | exact HB.out | apply below_alloc | apply pw_below_drewN | apply below_drew1 | refine below_set ?_ GE271.out) | exact HB.out))); (case side2 => repeat (first | exact (Kd.C_below HR0_3.out HB.out) | (with_reducible refine Kd.C_alloc ?_ _) | (with_reducible refine Kd.C_drewN ?_ _) | (with_reducible refine Kd.C_drew ?_))); (case side3 => exact HC0_3.out); rintro e w53 ⟨rfl, hb⟩; refine ⟨_, rfl, ?_⟩; have n0_ := Aside0.mk (blk_below (g := gb271) (o := .cells #[.int .u64 a0_0, .int .u64 a0_1, .string a0_2, .slice A0_3 l0_3.length c0_3] 26 (0, 0)) (by (with_reducible repeat (first | refine blk_drewN ?_ _ | refine blk_drew ?_ | refine blk_alloc ?_ _)); exact BK271.out) hb); have n1_ := Aside0.mk (below_step (by repeat (first | (with_reducible first | exact HB.out | apply below_alloc | apply pw_below_drewN | apply below_drew1 | refine below_set ?_ GE271.out) | exact HB.out)) hb); clear BK271; clear HB; have BK271 := n0_; have HB := n1_; clear n0_ n1_; (try clear hb); (try clear hb2); (try clear hk); (try clear hi)))
  go_ret2
  exact ⟨_, by first | rfl | (simp [errW_none, errW_some] <;> rfl) | (simp [*, errW_none, errW_some] <;> rfl), by first | exact Kd.R_nil _ _ _ _ _ | exact Kd.N_nil _ _ _ _ _ | exact Kd.V_nil _ _ _ _ _ | exact Kd.Q_nil _ _ _ _ _ | exact Kd.S_nil _ _ _ _ _, by repeat (first | (with_reducible first | exact HB.out | apply below_alloc | apply pw_below_drewN | apply below_drew1 | refine below_set ?_ GE271.out) | exact HB.out)⟩

/-! ### cambistref05_Pairs: function 12 -/
def cambistref05_Pairs.l0 : Nat → List (S36) → List (S36) → Int → Option (Bool)
 | 0, _, _, _ => none
 | k + 1, x0, x1, x5 => if x5 < (x0.length : Int) then (if 0 ≤ x5 then (if x5 < (x1.length : Int) then (if (!((((rd_T36 x0 x5).f0).toList) == (((rd_T36 x1 x5).f0).toList)) || (!((((rd_T36 x0 x5).f1).toList) == (((rd_T36 x1 x5).f1).toList)))) = true then (some false) else (cambistref05_Pairs.l0 k x0 x1 (wrap64 (x5 + 1)))) else (none)) else (none)) else (some true)
def cambistref05_Pairs.f (k : Nat) (l0 : List (S36)) (l1 : List (S36)) : Option (Bool) := if (l0.length : Int) = (l1.length : Int) then (cambistref05_Pairs.l0 k l0 l1 0) else (some false)
theorem cambistref05_Pairs.mono_l : ∀ k, (∀ y0 y1 y2, LeO (cambistref05_Pairs.l0 k y0 y1 y2) (cambistref05_Pairs.l0 (k + 1) y0 y1 y2))
 | 0 => fun _ _ _ r h => by simp [cambistref05_Pairs.l0] at h
 | k + 1 => by
  have ih0 := cambistref05_Pairs.mono_l k
  ·intro y0 y1 y2
   unfold cambistref05_Pairs.l0
   repeat' first
   | (with_reducible exact ih0 _ _ _)
   | (with_reducible exact LeO.refl _)
   | (with_reducible exact LeO.none _)
   | (with_reducible refine LeO.ite ?_ ?_)
   | (with_reducible refine LeO.bind ?_ (fun _ => ?_))
   | exact ih0 _ _ _
   | exact LeO.none _
   | refine LeO.ite ?_ ?_
   | refine LeO.bind ?_ (fun _ => ?_)
theorem cambistref05_Pairs.mono : ∀ a0 a1 k, LeO (cambistref05_Pairs.f k a0 a1) (cambistref05_Pairs.f (k + 1) a0 a1) := by
 intro a0 a1 k
 have ih0 := cambistref05_Pairs.mono_l k
 unfold cambistref05_Pairs.f
 repeat' first
   | (with_reducible exact ih0 _ _ _)
   | (with_reducible exact LeO.refl _)
   | (with_reducible exact LeO.none _)
   | (with_reducible refine LeO.ite ?_ ?_)
   | (with_reducible refine LeO.bind ?_ (fun _ => ?_))
   | exact ih0 _ _ _
   | exact LeO.none _
   | refine LeO.ite ?_ ?_
   | refine LeO.bind ?_ (fun _ => ?_)
set_option maxHeartbeats 8000000 in
set_option maxRecDepth 100000 in
theorem cambistref05_Pairs.calls (k : Nat) (A0 : Option Addr) (c0 : Nat) (l0 : List (S36)) (A1 : Option Addr) (c1 : Nat) (l1 : List (S36)) (r : Bool) (w : World) (hG : Glob w) (hr0 : Kd.C k36 w A0 l0.length l0) (hc0 : l0.length ≤ c0) (hr1 : Kd.C k36 w A1 l1.length l1) (hc1 : l1.length ≤ c1) (h : cambistref05_Pairs.f k l0 l1 = some r) :
  Calls Tryd.prog 12 #[.slice A0 l0.length c0, .slice A1 l1.length c1] w fun e w' => e = .returned (.bool r) ∧ Drawn0 w w' := by
 have hu36 := Tryd.underlying36
 have HG := Aside0.mk hG
 clear hG
 have HR0 := Aside0.mk hr0
 have HC0 := Aside0.mk hc0
 clear hr0 hc0
 have HR1 := Aside0.mk hr1
 have HC1 := Aside0.mk hc1
 clear hr1 hc1
 have H : (if (l0.length : Int) = (l1.length : Int) then (cambistref05_Pairs.l0 k l0 l1 0) else (some false)) = some r := h
 clear h
 by_cases c3 : (l0.length : Int) = (l1.length : Int)
 ·rw [if_pos c3] at H
  have c3b0 : ((l0.length : Int) == (l1.length : Int)) = true := beq_iff_eq.mpr c3
  have c3b1 : ((l0.length : Int) != (l1.length : Int)) = false := bne_eq_false_iff_eq.mpr c3
  have c3b2 : (l0.length == l1.length) = true := by first | simpa using c3 | (simp at c3 ⊢; omega)
  clear c3
  have H' := Aside0.mk H
  clear H
  go_enter Tryd.func12, Tryd.ntmps12
  go_wp2
  repeat (go_quiet (fail); try go_wp2)
  go_loopg [5] k (fun kq v5 w' => ∃ (x5_1 : Int), v5 = .int .i64 x5_1 ∧ Aside0 (cambistref05_Pairs.l0 kq l0 l1 x5_1 = some r) ∧ Aside0 (kq ≤ k) ∧ Drawn0 w w')
  case atStart => exact ⟨(0), (by first | rfl | (simp; done) | (simp [*]; done)), H', ⟨Nat.le_refl _⟩, by repeat (first | exact Drawn0.refl _ | apply Drawn0.step)⟩
  case round =>
   clear H'
   try clear c1
   try clear p2
   try clear c3
   try clear c3b0
   try clear c3b1
   try clear c3b2
   obtain ⟨x5_1, rfl, HA, HK1, ⟨m1, rfl⟩⟩ := hrel
   cases gk with
   | zero => exact absurd HA.out (by simp [cambistref05_Pairs.l0])
   | succ k1 =>
    have H := HA.out
    clear HA
    simp only [cambistref05_Pairs.l0] at H
    by_cases c4 : x5_1 < (l0.length : Int)
    ·rw [if_pos c4] at H
     have c4b0 : decide (x5_1 < (l0.length : Int)) = true := decide_eq_true c4
     clear c4
     by_cases c5 : 0 ≤ x5_1
     ·rw [if_pos c5] at H
      have c5b0 : decide (0 ≤ x5_1) = true := decide_eq_true c5
      clear c5
      by_cases c6 : x5_1 < (l1.length : Int)
      ·rw [if_pos c6] at H
       have c6b0 : decide (x5_1 < (l1.length : Int)) = true := decide_eq_true c6
       clear c6
       by_cases c7 : (!((((rd_T36 l0 x5_1).f0).toList) == (((rd_T36 l1 x5_1).f0).toList)) || (!((((rd_T36 l0 x5_1).f1).toList) == (((rd_T36 l1 x5_1).f1).toList)))) = true
       ·rw [if_pos c7] at H
        have c7b0 : (!((((rd_T36 l0 x5_1).f0).toList) == (((rd_T36 l1 x5_1).f0).toList)) || (!((((rd_T36 l0 x5_1).f1).toList) == (((rd_T36 l1 x5_1).f1).toList)))) = true := c7
        clear c7
        obtain rfl := Option.some.inj H
        have p296 : 0 ≤ (x5_1 : Int) := of_decide_eq_true (by first | (with_reducible assumption) | assumption)
        have q296 : x5_1 < (l0.length : Int) := of_decide_eq_true (by first | (with_reducible assumption) | assumption)
        obtain ⟨ad296, e296, hx296_0, hx296_1⟩ := at_T36 HR0.out x5_1 p296 q296
        cases e296
        replace p296 := eq_true p296
        replace q296 := eq_true q296
        have p297 : 0 ≤ (x5_1 : Int) := of_decide_eq_true (by first | (with_reducible assumption) | assumption)
        have q297 : x5_1 < (l1.length : Int) := of_decide_eq_true (by first | (with_reducible assumption) | assumption)
        obtain ⟨ad297, e297, hx297_0, hx297_1⟩ := at_T36 HR1.out x5_1 p297 q297
        cases e297
        replace p297 := eq_true p297
        replace q297 := eq_true q297
        go_wp2
        repeat (go_quiet (fail); try go_wp2)
        go_ret
        exact ⟨by first | rfl | (simp; done) | (simp [*]; done), by repeat (first | exact Drawn0.refl _ | apply Drawn0.step)⟩
       ·rw [if_neg c7] at H
        have c7b0 : (!((((rd_T36 l0 x5_1).f0).toList) == (((rd_T36 l1 x5_1).f0).toList)) || (!((((rd_T36 l0 x5_1).f1).toList) == (((rd_T36 l1 x5_1).f1).toList)))) = false := by simpa using c7
        clear c7
        have H' := Aside0.mk H
        clear H
        have p296 : 0 ≤ (x5_1 : Int) := of_decide_eq_true (by first | (with_reducible assumption) | assumption)
        have q296 : x5_1 < (l0.length : Int) := of_decide_eq_true (by first | (with_reducible assumption) | assumption)
        obtain ⟨ad296, e296, hx296_0, hx296_1⟩ := at_T36 HR0.out x5_1 p296 q296
        cases e296
        replace p296 := eq_true p296
        replace q296 := eq_true q296
        have p297 : 0 ≤ (x5_1 : Int) := of_decide_eq_true (by first | (with_reducible assumption) | assumption)
        have q297 : x5_1 < (l1.length : Int) := of_decide_eq_true (by first | (with_reducible assumption) | assumption)
        obtain ⟨ad297, e297, hx297_0, hx297_1⟩ := at_T36 HR1.out x5_1 p297 q297
        cases e297
        replace p297 := eq_true p297
        replace q297 := eq_true q297
        go_wp2
        repeat (go_quiet (fail); try go_wp2)
        go_roundg k1
        case measure => have := HK1.out; omega
        case rel => exact ⟨(wrap64 (x5_1 + 1)), (by first | rfl | (simp; done) | (simp [*]; done)), H', ⟨by have := HK1.out; omega⟩, by repeat (first | exact Drawn0.refl _ | apply Drawn0.step)⟩
      ·rw [if_neg c6] at H
       exact absurd H (by simp)
     ·rw [if_neg c5] at H
      exact absurd H (by simp)
    ·rw [if_neg c4] at H
     have c4b0 : decide (x5_1 < (l0.length : Int)) = false := decide_eq_false c4
     clear c4
     obtain rfl := Option.some.inj H
     go_wp2
     repeat (go_quiet (fail); try go_wp2)
     go_ret
     exact ⟨by first | rfl | (simp; done) | (simp [*]; done), by repeat (first | exact Drawn0.refl _ | apply Drawn0.step)⟩
 ·rw [if_neg c3] at H
  have c3b0 : ((l0.length : Int) == (l1.length : Int)) = false := beq_eq_false_iff_ne.mpr c3
  have c3b1 : ((l0.length : Int) != (l1.length : Int)) = true := bne_iff_ne.mpr c3
  have c3b2 : (l0.length == l1.length) = false := by first | simpa using c3 | (simp at c3 ⊢; omega)
  obtain rfl := Option.some.inj H
  go_enter Tryd.func12, Tryd.ntmps12
  go_wp2
  repeat (go_quiet (fail); try go_wp2)
  go_ret
  exact ⟨by first | rfl | (simp; done) | (simp [*]; done), by repeat (first | exact Drawn0.refl _ | apply Drawn0.step)⟩

end Go.Proofs.YtjlifcbddednaaaDoor.P
