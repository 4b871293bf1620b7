-- Laid by wip/tools/cprint.py of this claim's own repo (over the kit's print).
import Derived.Test.YtalepbkdakjhdaaDoorPx0
import Derived.Test.YtalepbkdakjhdaaDoorPx1
import Derived.Test.YtalepbkdakjhdaaDoorPx2
import Derived.Test.YtalepbkdakjhdaaDoorDigits
import Derived.Test.YtalepbkdakjhdaaDoorNumber
namespace Go.Proofs.YtalepbkdakjhdaaDoor.P
open Go.RowKit Go.Proofs.YtalepbkdakjhdaaDoor.E Go.Proofs.YtalepbkdakjhdaaDoorW.PrintWords Go.Proofs.YtalepbkdakjhdaaDoorW.PrintLast Go.Proofs.YtalepbkdakjhdaaDoorW.PrintMore
attribute [local go_sem] max2_int min2_int max_two min_two max_three min_three max_four min_four   -- for this text's walks alone
set_option linter.unusedVariables false
set_option linter.unusedSimpArgs false

/-! ### cambistlaw02_LabelRises: function 7 -/
def cambistlaw02_LabelRises.f (k : Nat) (a0 : Int) (a1 : Int) : Option (Bool) := (cambistlaw02_awake.f k).bind fun t244 => ((label_Digits.f a0).bind fun t245 => ((label_Digits.f a1).bind fun t246 => ((label_Number.f t245).bind fun bt247 => (if t244 = true then (if ((Op.bytesLess t245.toList t246.toList) == (decide (a0 < a1))) = true then (if ((t245.toList == t246.toList) == (a0 == a1)) = true then (if bt247.1 = a0 then (if bt247.2 = 0 then (some ((t245.size : Int) == 16)) else (none)) else (none)) else (none)) else (none)) else (none)))))
theorem cambistlaw02_LabelRises.mono : ∀ a0 a1 k, LeO (cambistlaw02_LabelRises.f k a0 a1) (cambistlaw02_LabelRises.f (k + 1) a0 a1) := by
  intro a0 a1 k
  unfold cambistlaw02_LabelRises.f
  repeat' first
      | (with_reducible exact cambistlaw02_awake.mono _)
      | (with_reducible exact LeO.refl _)
      | (with_reducible exact LeO.none _)
      | (with_reducible refine LeO.ite ?_ ?_)
      | (with_reducible refine LeO.bind ?_ (fun _ => ?_))
      | exact cambistlaw02_awake.mono _
      | exact LeO.none _
      | refine LeO.ite ?_ ?_
      | refine LeO.bind ?_ (fun _ => ?_)
set_option maxHeartbeats 8000000 in
set_option maxRecDepth 100000 in
theorem cambistlaw02_LabelRises.calls (k : Nat) (a0 : Int) (a1 : Int) (r : Bool) (w : World) (hG : Glob w) (h : cambistlaw02_LabelRises.f k a0 a1 = some r) :
    Calls Tryd.prog 7 #[.int .u64 a0, .int .u64 a1] w fun e w' => e = .returned (.bool r) ∧ Below w.heap.size w w' := by
  have HG := Aside0.mk hG
  clear hG
  have HB := Aside0.mk (Below.refl w.heap.size w)
  have H : ((cambistlaw02_awake.f k).bind fun t244 => ((label_Digits.f a0).bind fun t245 => ((label_Digits.f a1).bind fun t246 => ((label_Number.f t245).bind fun bt247 => (if t244 = true then (if ((Op.bytesLess t245.toList t246.toList) == (decide (a0 < a1))) = true then (if ((t245.toList == t246.toList) == (a0 == a1)) = true then (if bt247.1 = a0 then (if bt247.2 = 0 then (some ((t245.size : Int) == 16)) else (none)) else (none)) else (none)) else (none)) else (none)))))) = some r := h
  clear h
  replace H := Option.bind_eq_some_iff.mp H
  obtain ⟨t244, A30, H⟩ := H
  replace H : ((label_Digits.f a0).bind fun t245 => ((label_Digits.f a1).bind fun t246 => ((label_Number.f t245).bind fun bt247 => (if t244 = true then (if ((Op.bytesLess t245.toList t246.toList) == (decide (a0 < a1))) = true then (if ((t245.toList == t246.toList) == (a0 == a1)) = true then (if bt247.1 = a0 then (if bt247.2 = 0 then (some ((t245.size : Int) == 16)) else (none)) else (none)) else (none)) else (none)) else (none))))) = some r := H
  have A3 := Aside0.mk A30
  clear A30
  replace H := Option.bind_eq_some_iff.mp H
  obtain ⟨t245, A40, H⟩ := H
  replace H : ((label_Digits.f a1).bind fun t246 => ((label_Number.f t245).bind fun bt247 => (if t244 = true then (if ((Op.bytesLess t245.toList t246.toList) == (decide (a0 < a1))) = true then (if ((t245.toList == t246.toList) == (a0 == a1)) = true then (if bt247.1 = a0 then (if bt247.2 = 0 then (some ((t245.size : Int) == 16)) else (none)) else (none)) else (none)) else (none)) else (none)))) = some r := H
  have A4 := Aside0.mk A40
  clear A40
  replace H := Option.bind_eq_some_iff.mp H
  obtain ⟨t246, A50, H⟩ := H
  replace H : ((label_Number.f t245).bind fun bt247 => (if t244 = true then (if ((Op.bytesLess t245.toList t246.toList) == (decide (a0 < a1))) = true then (if ((t245.toList == t246.toList) == (a0 == a1)) = true then (if bt247.1 = a0 then (if bt247.2 = 0 then (some ((t245.size : Int) == 16)) else (none)) else (none)) else (none)) else (none)) else (none))) = some r := H
  have A5 := Aside0.mk A50
  clear A50
  replace H := Option.bind_eq_some_iff.mp H
  obtain ⟨⟨t247, t248⟩, A60, H⟩ := H
  replace H : (if t244 = true then (if ((Op.bytesLess t245.toList t246.toList) == (decide (a0 < a1))) = true then (if ((t245.toList == t246.toList) == (a0 == a1)) = true then (if t247 = a0 then (if t248 = 0 then (some ((t245.size : Int) == 16)) else (none)) else (none)) else (none)) else (none)) else (none)) = some r := H
  have A6 := Aside0.mk A60
  clear A60
  by_cases c7 : t244 = true
  · subst c7
    have H1 : (if ((Op.bytesLess t245.toList t246.toList) == (decide (a0 < a1))) = true then (if ((t245.toList == t246.toList) == (a0 == a1)) = true then (if t247 = a0 then (if t248 = 0 then (some ((t245.size : Int) == 16)) else (none)) else (none)) else (none)) else (none)) = some r := by rw [if_pos rfl] at H; exact H
    clear H
    have H := H1
    clear H1
    by_cases c8 : ((Op.bytesLess t245.toList t246.toList) == (decide (a0 < a1))) = true
    · rw [if_pos c8] at H
      have c8b0 : ((Op.bytesLess t245.toList t246.toList) == (decide (a0 < a1))) = true := c8
      (try (have c8b1 : decide ((Op.bytesLess t245.toList t246.toList) = (decide (a0 < a1))) = true := by simpa using c8))
      (try (have c8b2 : ((Op.bytesLess t245.toList t246.toList) == (decide (a0 < a1))) = true := by simpa using c8))
      clear c8
      (try rw [c8b0])
      by_cases c9 : ((t245.toList == t246.toList) == (a0 == a1)) = true
      · rw [if_pos c9] at H
        have c9b0 : ((t245.toList == t246.toList) == (a0 == a1)) = true := c9
        (try (have c9b1 : decide ((t245.toList == t246.toList) = (a0 == a1)) = true := by simpa using c9))
        (try (have c9b2 : ((t245.toList == t246.toList) == (a0 == a1)) = true := by simpa using c9))
        clear c9
        by_cases c10 : t247 = a0
        · rw [if_pos c10] at H
          have c10b0 : (t247 == a0) = true := beq_iff_eq.mpr c10
          have c10b1 : (t247 != a0) = false := bne_eq_false_iff_eq.mpr c10
          clear c10
          by_cases c11 : t248 = 0
          · rw [if_pos c11] at H
            have c11b0 : (t248 == 0) = true := beq_iff_eq.mpr c11
            have c11b1 : (t248 != 0) = false := bne_eq_false_iff_eq.mpr c11
            clear c11
            obtain rfl := Option.some.inj H
            go_enter Tryd.func7, Tryd.ntmps7
            go_wp2_with (first | ((with_reducible refine gate_callee (f := 9) rfl ?_); refine goesL_ (some 10) rfl rfl Tryd.func9 (by kernel_rfl) rfl #[] rfl (by (try simp only [List.map_toArray, List.map_cons, List.map_nil]); first | done | rfl | (simp only [List.length_drop, List.length_take]; rfl)) ?_; (with_reducible refine (cambistlaw02_awake.calls k  true _ ?side1 A3.out).mono ?_); (case side1 => exact Glob.below HG.out (by repeat (first | (with_reducible first | exact HB.out | apply below_alloc | apply pw_below_drewN | apply below_drew1) | exact HB.out))); rintro e w12 ⟨rfl, hb⟩; refine ⟨_, rfl, ?_⟩; have n0_ := Aside0.mk (below_step (by repeat (first | (with_reducible first | exact HB.out | apply below_alloc | apply pw_below_drewN | apply below_drew1) | exact HB.out)) hb); clear HB; have HB := n0_; clear n0_; (try clear hb); (try clear hb2); (try clear hk); (try clear hi)) | ((with_reducible refine gate_callee (f := 18) rfl ?_); refine goesL_ (some 12) rfl rfl Tryd.func18 (by kernel_rfl) rfl #[.int .u64 a0] rfl (by (try simp only [List.map_toArray, List.map_cons, List.map_nil]); first | done | rfl | (simp only [List.length_drop, List.length_take]; rfl)) ?_; (with_reducible refine (label_Digits.calls a0 t245 _ ?side1 A4.out).mono ?_); (case side1 => exact Glob.below HG.out (by repeat (first | (with_reducible first | exact HB.out | apply below_alloc | apply pw_below_drewN | apply below_drew1) | exact HB.out))); rintro e w13 ⟨rfl, hb⟩; refine ⟨_, rfl, ?_⟩; have n0_ := Aside0.mk (below_step (by repeat (first | (with_reducible first | exact HB.out | apply below_alloc | apply pw_below_drewN | apply below_drew1) | exact HB.out)) hb); clear HB; have HB := n0_; clear n0_; (try clear hb); (try clear hb2); (try clear hk); (try clear hi)) | ((with_reducible refine gate_callee (f := 18) rfl ?_); refine goesL_ (some 14) rfl rfl Tryd.func18 (by kernel_rfl) rfl #[.int .u64 a1] rfl (by (try simp only [List.map_toArray, List.map_cons, List.map_nil]); first | done | rfl | (simp only [List.length_drop, List.length_take]; rfl)) ?_; (with_reducible refine (label_Digits.calls a1 t246 _ ?side1 A5.out).mono ?_); (case side1 => exact Glob.below HG.out (by repeat (first | (with_reducible first | exact HB.out | apply below_alloc | apply pw_below_drewN | apply below_drew1) | exact HB.out))); rintro e w14 ⟨rfl, hb⟩; refine ⟨_, rfl, ?_⟩; have n0_ := Aside0.mk (below_step (by repeat (first | (with_reducible first | exact HB.out | apply below_alloc | apply pw_below_drewN | apply below_drew1) | exact HB.out)) hb); clear HB; have HB := n0_; clear n0_; (try clear hb); (try clear hb2); (try clear hk); (try clear hi)) | ((with_reducible refine gate_callee (f := 10) rfl ?_); refine goesL_ (some 17) rfl rfl Tryd.func10 (by kernel_rfl) rfl #[.string t245] rfl (by (try simp only [List.map_toArray, List.map_cons, List.map_nil]); first | done | rfl | (simp only [List.length_drop, List.length_take]; rfl)) ?_; (with_reducible refine (label_Number.calls t245 t247 t248 _ ?side1 A6.out).mono ?_); (case side1 => exact Glob.below HG.out (by repeat (first | (with_reducible first | exact HB.out | apply below_alloc | apply pw_below_drewN | apply below_drew1) | exact HB.out))); rintro e w15 ⟨rfl, hb⟩; refine ⟨_, rfl, ?_⟩; have n0_ := Aside0.mk (below_step (by repeat (first | (with_reducible first | exact HB.out | apply below_alloc | apply pw_below_drewN | apply below_drew1) | exact HB.out)) hb); clear HB; have HB := n0_; clear n0_; (try clear hb); (try clear hb2); (try clear hk); (try clear hi)))
            go_ret
            exact ⟨by first | rfl | (simp [errW_none, errW_some] <;> rfl) | (simp [*, errW_none, errW_some] <;> rfl), by repeat (first | (with_reducible first | exact HB.out | apply below_alloc | apply pw_below_drewN | apply below_drew1) | exact HB.out)⟩
          · rw [if_neg c11] at H
            exact absurd H (by simp)
        · rw [if_neg c10] at H
          exact absurd H (by simp)
      · rw [if_neg c9] at H
        exact absurd H (by simp)
    · rw [if_neg c8] at H
      exact absurd H (by simp)
  · replace c7 := Bool.eq_false_iff.mpr c7
    subst c7
    have H1 : (none) = some r := by rw [if_neg (show ¬ (false = true) by decide)] at H; exact H
    clear H
    have H := H1
    clear H1
    exact absurd H (by simp)

/-! ### cambistlaw02_LabelBetween: function 8 -/
mutual
def cambistlaw02_LabelBetween.j0 : Nat → Int → List ByteArray → ByteArray → List ByteArray → Bool → Bool → Option (Bool)
  | 0, _, _, _, _, _, _ => none
  | k + 1, x0, x1, x2, x3, x9, x30 => if x30 = true then (some x9) else ((label_Key.f k x0 x1).bind fun bt250 => ((some (([] : List ByteArray) : List ByteArray)).bind fun y252 => (if y252.length + x1.length < 8796093022208 then ((some (y252 ++ x1 : List ByteArray)).bind fun y255 => (if y255.length < 8796093022208 then ((label_Key.f k x0 (y255 ++ [x2])).bind fun bt261 => ((label_Key.f k x0 x3).bind fun bt263 => (if bt250.2 = 0 then (if bt261.2 = 0 then (if ((Op.bytesLess bt261.1.toList bt250.1.toList) || (bt261.1.toList == bt250.1.toList)) = true then (cambistlaw02_LabelBetween.j1 k x1 x3 x9 bt250.1 bt263.1 bt263.2 true) else ((label_End.f bt250.1).bind fun t265 => (if ((Op.bytesLess bt261.1.toList t265.toList) = true) then (if bt250.1.size + 1 ≤ 9223372036854775807 then (cambistlaw02_LabelBetween.j1 k x1 x3 x9 bt250.1 bt263.1 bt263.2 (Op.bytesLess bt261.1.toList ((bt250.1 ++ (⟨#[124]⟩ : ByteArray)).toList))) else (none)) else (cambistlaw02_LabelBetween.j1 k x1 x3 x9 bt250.1 bt263.1 bt263.2 true)))) else (cambistlaw02_LabelBetween.j1 k x1 x3 x9 bt250.1 bt263.1 bt263.2 false)) else (some x9)))) else (none))) else (none))))
def cambistlaw02_LabelBetween.j1 : Nat → List ByteArray → List ByteArray → Bool → ByteArray → ByteArray → Int → Bool → Option (Bool)
  | 0, _, _, _, _, _, _, _ => none
  | k + 1, x1, x3, x9, x10, x14, x15, x76 => if x76 = true then (none) else (if x15 = 0 then (cambistlaw02_LabelBetween.j2 k x1 x3 x9 x10 x14 (decide ((x3.length : Int) < (x1.length : Int)))) else (cambistlaw02_LabelBetween.j2 k x1 x3 x9 x10 x14 true))
def cambistlaw02_LabelBetween.j2 : Nat → List ByteArray → List ByteArray → Bool → ByteArray → ByteArray → Bool → Option (Bool)
  | 0, _, _, _, _, _, _ => none
  | k + 1, x1, x3, x9, x10, x14, x85 => if x85 = true then (some x9) else (if 0 ≤ (x1.length : Int) then (if (x1.length : Int) ≤ (x3.length : Int) then ((cambistref02_Same.f k (x3.take ((x1.length : Int) : Int).toNat) x1).bind fun t267 => (if t267 = true then (if x9 = true then (if x10.size + 1 ≤ 9223372036854775807 then (if (((Op.bytesLess x14.toList ((x10 ++ (⟨#[124]⟩ : ByteArray)).toList)) || (x14.toList == ((x10 ++ (⟨#[124]⟩ : ByteArray)).toList))) = true) then (some (false == (decide ((x3.length : Int) > (x1.length : Int))))) else ((label_End.f x10).bind fun t268 => (some ((Op.bytesLess x14.toList t268.toList) == (decide ((x3.length : Int) > (x1.length : Int))))))) else (none)) else (none)) else (if x9 = true then (if x10.size + 1 ≤ 9223372036854775807 then (if (((Op.bytesLess x14.toList ((x10 ++ (⟨#[124]⟩ : ByteArray)).toList)) || (x14.toList == ((x10 ++ (⟨#[124]⟩ : ByteArray)).toList))) = true) then (some (false == false)) else ((label_End.f x10).bind fun t269 => (some ((Op.bytesLess x14.toList t269.toList) == false)))) else (none)) else (none)))) else (none)) else (none))
end
def cambistlaw02_LabelBetween.f (k : Nat) (a0 : Int) (l1 : List ByteArray) (a2 : ByteArray) (l3 : List ByteArray) : Option (Bool) := (cambistlaw02_awake.f k).bind fun t249 => (if (l1.length : Int) > 10 then (cambistlaw02_LabelBetween.j0 k a0 l1 a2 l3 t249 true) else (if (l3.length : Int) > 10 then (cambistlaw02_LabelBetween.j0 k a0 l1 a2 l3 t249 true) else (cambistlaw02_LabelBetween.j0 k a0 l1 a2 l3 t249 (decide ((a2.size : Int) > 100)))))
theorem cambistlaw02_LabelBetween.mono_l : ∀ k, (∀ y0 y1 y2 y3 y4 y5, LeO (cambistlaw02_LabelBetween.j0 k y0 y1 y2 y3 y4 y5) (cambistlaw02_LabelBetween.j0 (k + 1) y0 y1 y2 y3 y4 y5)) ∧ (∀ y0 y1 y2 y3 y4 y5 y6, LeO (cambistlaw02_LabelBetween.j1 k y0 y1 y2 y3 y4 y5 y6) (cambistlaw02_LabelBetween.j1 (k + 1) y0 y1 y2 y3 y4 y5 y6)) ∧ (∀ y0 y1 y2 y3 y4 y5, LeO (cambistlaw02_LabelBetween.j2 k y0 y1 y2 y3 y4 y5) (cambistlaw02_LabelBetween.j2 (k + 1) y0 y1 y2 y3 y4 y5))
  | 0 => ⟨fun _ _ _ _ _ _ r h => by simp [cambistlaw02_LabelBetween.j0] at h, fun _ _ _ _ _ _ _ r h => by simp [cambistlaw02_LabelBetween.j1] at h, fun _ _ _ _ _ _ r h => by simp [cambistlaw02_LabelBetween.j2] at h⟩
  | k + 1 => by
    obtain ⟨ih0, ih1, ih2⟩ := cambistlaw02_LabelBetween.mono_l k
    refine ⟨?_, ?_, ?_⟩
    · intro y0 y1 y2 y3 y4 y5
      unfold cambistlaw02_LabelBetween.j0
      repeat' first
      | (with_reducible exact ih0 _ _ _ _ _ _)
      | (with_reducible exact ih1 _ _ _ _ _ _ _)
      | (with_reducible exact ih2 _ _ _ _ _ _)
      | (with_reducible exact cambistlaw02_awake.mono _)
      | (with_reducible exact cambistref02_Same.mono _ _ _)
      | (with_reducible exact label_Key.mono _ _ _)
      | (with_reducible exact LeO.refl _)
      | (with_reducible exact LeO.none _)
      | (with_reducible refine LeO.ite ?_ ?_)
      | (with_reducible refine LeO.bind ?_ (fun _ => ?_))
      | exact ih0 _ _ _ _ _ _
      | exact ih1 _ _ _ _ _ _ _
      | exact ih2 _ _ _ _ _ _
      | exact cambistlaw02_awake.mono _
      | exact cambistref02_Same.mono _ _ _
      | exact label_Key.mono _ _ _
      | exact LeO.none _
      | refine LeO.ite ?_ ?_
      | refine LeO.bind ?_ (fun _ => ?_)
    · intro y0 y1 y2 y3 y4 y5 y6
      unfold cambistlaw02_LabelBetween.j1
      repeat' first
      | (with_reducible exact ih0 _ _ _ _ _ _)
      | (with_reducible exact ih1 _ _ _ _ _ _ _)
      | (with_reducible exact ih2 _ _ _ _ _ _)
      | (with_reducible exact cambistlaw02_awake.mono _)
      | (with_reducible exact cambistref02_Same.mono _ _ _)
      | (with_reducible exact label_Key.mono _ _ _)
      | (with_reducible exact LeO.refl _)
      | (with_reducible exact LeO.none _)
      | (with_reducible refine LeO.ite ?_ ?_)
      | (with_reducible refine LeO.bind ?_ (fun _ => ?_))
      | exact ih0 _ _ _ _ _ _
      | exact ih1 _ _ _ _ _ _ _
      | exact ih2 _ _ _ _ _ _
      | exact cambistlaw02_awake.mono _
      | exact cambistref02_Same.mono _ _ _
      | exact label_Key.mono _ _ _
      | exact LeO.none _
      | refine LeO.ite ?_ ?_
      | refine LeO.bind ?_ (fun _ => ?_)
    · intro y0 y1 y2 y3 y4 y5
      unfold cambistlaw02_LabelBetween.j2
      repeat' first
      | (with_reducible exact ih0 _ _ _ _ _ _)
      | (with_reducible exact ih1 _ _ _ _ _ _ _)
      | (with_reducible exact ih2 _ _ _ _ _ _)
      | (with_reducible exact cambistlaw02_awake.mono _)
      | (with_reducible exact cambistref02_Same.mono _ _ _)
      | (with_reducible exact label_Key.mono _ _ _)
      | (with_reducible exact LeO.refl _)
      | (with_reducible exact LeO.none _)
      | (with_reducible refine LeO.ite ?_ ?_)
      | (with_reducible refine LeO.bind ?_ (fun _ => ?_))
      | exact ih0 _ _ _ _ _ _
      | exact ih1 _ _ _ _ _ _ _
      | exact ih2 _ _ _ _ _ _
      | exact cambistlaw02_awake.mono _
      | exact cambistref02_Same.mono _ _ _
      | exact label_Key.mono _ _ _
      | exact LeO.none _
      | refine LeO.ite ?_ ?_
      | refine LeO.bind ?_ (fun _ => ?_)
theorem cambistlaw02_LabelBetween.mono : ∀ a0 a1 a2 a3 k, LeO (cambistlaw02_LabelBetween.f k a0 a1 a2 a3) (cambistlaw02_LabelBetween.f (k + 1) a0 a1 a2 a3) := by
  intro a0 a1 a2 a3 k
  obtain ⟨ih0, ih1, ih2⟩ := cambistlaw02_LabelBetween.mono_l k
  unfold cambistlaw02_LabelBetween.f
  repeat' first
      | (with_reducible exact ih0 _ _ _ _ _ _)
      | (with_reducible exact ih1 _ _ _ _ _ _ _)
      | (with_reducible exact ih2 _ _ _ _ _ _)
      | (with_reducible exact cambistlaw02_awake.mono _)
      | (with_reducible exact cambistref02_Same.mono _ _ _)
      | (with_reducible exact label_Key.mono _ _ _)
      | (with_reducible exact LeO.refl _)
      | (with_reducible exact LeO.none _)
      | (with_reducible refine LeO.ite ?_ ?_)
      | (with_reducible refine LeO.bind ?_ (fun _ => ?_))
      | exact ih0 _ _ _ _ _ _
      | exact ih1 _ _ _ _ _ _ _
      | exact ih2 _ _ _ _ _ _
      | exact cambistlaw02_awake.mono _
      | exact cambistref02_Same.mono _ _ _
      | exact label_Key.mono _ _ _
      | exact LeO.none _
      | refine LeO.ite ?_ ?_
      | refine LeO.bind ?_ (fun _ => ?_)
set_option maxHeartbeats 8000000 in
set_option maxRecDepth 100000 in
theorem cambistlaw02_LabelBetween.calls (k : Nat) (a0 : Int) (A1 : Option Addr) (c1 : Nat) (l1 : List ByteArray) (a2 : ByteArray) (A3 : Option Addr) (c3 : Nat) (l3 : List ByteArray) (r : Bool) (w : World) (hG : Glob w) (hr1 : Kd.C Kd.string w A1 l1.length l1) (hc1 : l1.length ≤ c1) (hr3 : Kd.C Kd.string w A3 l3.length l3) (hc3 : l3.length ≤ c3) (h : cambistlaw02_LabelBetween.f k a0 l1 a2 l3 = some r) :
    Calls Tryd.prog 8 #[.int .u8 a0, .slice A1 l1.length c1, .string a2, .slice A3 l3.length c3] w fun e w' => e = .returned (.bool r) ∧ Below w.heap.size w w' := by
  have HG := Aside0.mk hG
  clear hG
  have HR1 := Aside0.mk hr1
  have HC1 := Aside0.mk hc1
  clear hr1 hc1
  have HR3 := Aside0.mk hr3
  have HC3 := Aside0.mk hc3
  clear hr3 hc3
  have HB := Aside0.mk (Below.refl w.heap.size w)
  have H : ((cambistlaw02_awake.f k).bind fun t249 => (if (l1.length : Int) > 10 then (cambistlaw02_LabelBetween.j0 k a0 l1 a2 l3 t249 true) else (if (l3.length : Int) > 10 then (cambistlaw02_LabelBetween.j0 k a0 l1 a2 l3 t249 true) else (cambistlaw02_LabelBetween.j0 k a0 l1 a2 l3 t249 (decide ((a2.size : Int) > 100)))))) = some r := h
  clear h
  replace H := Option.bind_eq_some_iff.mp H
  obtain ⟨t249, A50, H⟩ := H
  replace H : (if (l1.length : Int) > 10 then (cambistlaw02_LabelBetween.j0 k a0 l1 a2 l3 t249 true) else (if (l3.length : Int) > 10 then (cambistlaw02_LabelBetween.j0 k a0 l1 a2 l3 t249 true) else (cambistlaw02_LabelBetween.j0 k a0 l1 a2 l3 t249 (decide ((a2.size : Int) > 100))))) = some r := H
  have A5 := Aside0.mk A50
  clear A50
  have HC6 := Aside0.mk H
  clear H
  go_enter Tryd.func8, Tryd.ntmps8
  go_upto_region 2 with (first | ((with_reducible refine gate_callee (f := 9) rfl ?_); refine goesL_ (some 17) rfl rfl Tryd.func9 (by kernel_rfl) rfl #[] rfl (by (try simp only [List.map_toArray, List.map_cons, List.map_nil]); first | done | rfl | (simp only [List.length_drop, List.length_take]; rfl)) ?_; (with_reducible refine (cambistlaw02_awake.calls k  t249 _ ?side1 A5.out).mono ?_); (case side1 => exact Glob.below HG.out (by repeat (first | (with_reducible first | exact HB.out | apply below_alloc | apply pw_below_drewN | apply below_drew1) | exact HB.out))); rintro e w7 ⟨rfl, hb⟩; refine ⟨_, rfl, ?_⟩; have n0_ := Aside0.mk (below_step (by repeat (first | (with_reducible first | exact HB.out | apply below_alloc | apply pw_below_drewN | apply below_drew1) | exact HB.out)) hb); clear HB; have HB := n0_; clear n0_; (try clear hb); (try clear hb2); (try clear hk); (try clear hi)))
  (try simp only [Act.put, List.setIfInBounds_toArray, List.set_cons_zero, List.set_cons_succ])
  go_cut [30] (fun v30 wc => ∃ (kq : Nat) (x30_5 : Bool), v30 = .bool x30_5 ∧ Aside0 (cambistlaw02_LabelBetween.j0 kq a0 l1 a2 l3 t249 x30_5 = some r) ∧ Aside0 (kq ≤ k) ∧ Aside0 (Below w.heap.size w wc))
  case first =>
    have H := HC6.out
    clear HC6
    by_cases c8 : (l1.length : Int) > 10
    · rw [if_pos c8] at H
      have c8b0 : decide (10 < (l1.length : Int)) = true := decide_eq_true c8
      have c8b1 : decide (10 < l1.length) = true := decide_eq_true (by omega)
      clear c8
      (first | rw [c8b0] | (simp only [i64_w, i32_w]; rw [c8b0]) | skip)
      have H' := Aside0.mk H
      clear H
      go_wp2
      go_meet
      case rel => exact ⟨_, (true), (by first | rfl | (simp; done) | (simp [*]; done)), H', ⟨by first | omega | exact Nat.le_refl _⟩, ⟨by repeat (first | (with_reducible first | exact HB.out | apply below_alloc | apply pw_below_drewN | apply below_drew1) | exact HB.out)⟩⟩
    · rw [if_neg c8] at H
      have c8b0 : decide (10 < (l1.length : Int)) = false := decide_eq_false c8
      have c8b1 : decide (10 < l1.length) = false := decide_eq_false (by omega)
      clear c8
      (first | rw [c8b0] | (simp only [i64_w, i32_w]; rw [c8b0]) | skip)
      by_cases c9 : (l3.length : Int) > 10
      · rw [if_pos c9] at H
        have c9b0 : decide (10 < (l3.length : Int)) = true := decide_eq_true c9
        have c9b1 : decide (10 < l3.length) = true := decide_eq_true (by omega)
        clear c9
        have H' := Aside0.mk H
        clear H
        go_wp2
        go_meet
        case rel => exact ⟨_, (true), (by first | rfl | (simp; done) | (simp [*]; done)), H', ⟨by first | omega | exact Nat.le_refl _⟩, ⟨by repeat (first | (with_reducible first | exact HB.out | apply below_alloc | apply pw_below_drewN | apply below_drew1) | exact HB.out)⟩⟩
      · rw [if_neg c9] at H
        have c9b0 : decide (10 < (l3.length : Int)) = false := decide_eq_false c9
        have c9b1 : decide (10 < l3.length) = false := decide_eq_false (by omega)
        clear c9
        have H' := Aside0.mk H
        clear H
        go_wp2
        go_meet
        case rel => exact ⟨_, (decide ((a2.size : Int) > 100)), (by first | rfl | (simp; done) | (simp [*]; done)), H', ⟨by first | omega | exact Nat.le_refl _⟩, ⟨by repeat (first | (with_reducible first | exact HB.out | apply below_alloc | apply pw_below_drewN | apply below_drew1) | exact HB.out)⟩⟩
  case rest =>
    clear HC6
    try clear c1
    try clear p2
    try clear c3
    try clear c8
    try clear c8b0
    try clear c8b1
    try clear c9
    try clear c9b0
    try clear c9b1
    obtain ⟨kq, x30_5, rfl, HA, HJ5, HB⟩ := hcut
    cases kq with
    | zero => exact absurd HA.out (by simp [cambistlaw02_LabelBetween.j0])
    | succ kj5 =>
      have H := HA.out
      clear HA
      simp only [cambistlaw02_LabelBetween.j0] at H
      by_cases c10 : x30_5 = true
      · subst c10
        have H1 : (some t249) = some r := by rw [if_pos rfl] at H; exact H
        clear H
        have H := H1
        clear H1
        obtain rfl := Option.some.inj H
        go_wp2
        go_ret
        exact ⟨by first | rfl | (simp [errW_none, errW_some] <;> rfl) | (simp [*, errW_none, errW_some] <;> rfl), by repeat (first | (with_reducible first | exact HB.out | apply below_alloc | apply pw_below_drewN | apply below_drew1) | exact HB.out)⟩
      · replace c10 := Bool.eq_false_iff.mpr c10
        subst c10
        have H1 : ((label_Key.f kj5 a0 l1).bind fun bt250 => ((some (([] : List ByteArray) : List ByteArray)).bind fun y252 => (if y252.length + l1.length < 8796093022208 then ((some (y252 ++ l1 : List ByteArray)).bind fun y255 => (if y255.length < 8796093022208 then ((label_Key.f kj5 a0 (y255 ++ [a2])).bind fun bt261 => ((label_Key.f kj5 a0 l3).bind fun bt263 => (if bt250.2 = 0 then (if bt261.2 = 0 then (if ((Op.bytesLess bt261.1.toList bt250.1.toList) || (bt261.1.toList == bt250.1.toList)) = true then (cambistlaw02_LabelBetween.j1 kj5 l1 l3 t249 bt250.1 bt263.1 bt263.2 true) else ((label_End.f bt250.1).bind fun t265 => (if ((Op.bytesLess bt261.1.toList t265.toList) = true) then (if bt250.1.size + 1 ≤ 9223372036854775807 then (cambistlaw02_LabelBetween.j1 kj5 l1 l3 t249 bt250.1 bt263.1 bt263.2 (Op.bytesLess bt261.1.toList ((bt250.1 ++ (⟨#[124]⟩ : ByteArray)).toList))) else (none)) else (cambistlaw02_LabelBetween.j1 kj5 l1 l3 t249 bt250.1 bt263.1 bt263.2 true)))) else (cambistlaw02_LabelBetween.j1 kj5 l1 l3 t249 bt250.1 bt263.1 bt263.2 false)) else (some t249)))) else (none))) else (none)))) = some r := by rw [if_neg (show ¬ (false = true) by decide)] at H; exact H
        clear H
        have H := H1
        clear H1
        replace H := Option.bind_eq_some_iff.mp H
        obtain ⟨⟨t250, t251⟩, A110, H⟩ := H
        replace H : ((some (([] : List ByteArray) : List ByteArray)).bind fun y252 => (if y252.length + l1.length < 8796093022208 then ((some (y252 ++ l1 : List ByteArray)).bind fun y255 => (if y255.length < 8796093022208 then ((label_Key.f kj5 a0 (y255 ++ [a2])).bind fun bt261 => ((label_Key.f kj5 a0 l3).bind fun bt263 => (if t251 = 0 then (if bt261.2 = 0 then (if ((Op.bytesLess bt261.1.toList t250.toList) || (bt261.1.toList == t250.toList)) = true then (cambistlaw02_LabelBetween.j1 kj5 l1 l3 t249 t250 bt263.1 bt263.2 true) else ((label_End.f t250).bind fun t265 => (if ((Op.bytesLess bt261.1.toList t265.toList) = true) then (if t250.size + 1 ≤ 9223372036854775807 then (cambistlaw02_LabelBetween.j1 kj5 l1 l3 t249 t250 bt263.1 bt263.2 (Op.bytesLess bt261.1.toList ((t250 ++ (⟨#[124]⟩ : ByteArray)).toList))) else (none)) else (cambistlaw02_LabelBetween.j1 kj5 l1 l3 t249 t250 bt263.1 bt263.2 true)))) else (cambistlaw02_LabelBetween.j1 kj5 l1 l3 t249 t250 bt263.1 bt263.2 false)) else (some t249)))) else (none))) else (none))) = some r := H
        have A11 := Aside0.mk A110
        clear A110
        obtain ⟨y252, hy252⟩ : ∃ y_ : List ByteArray, y_ = (([] : List ByteArray)) := ⟨_, rfl⟩
        replace H : (if y252.length + l1.length < 8796093022208 then ((some (y252 ++ l1 : List ByteArray)).bind fun y255 => (if y255.length < 8796093022208 then ((label_Key.f kj5 a0 (y255 ++ [a2])).bind fun bt261 => ((label_Key.f kj5 a0 l3).bind fun bt263 => (if t251 = 0 then (if bt261.2 = 0 then (if ((Op.bytesLess bt261.1.toList t250.toList) || (bt261.1.toList == t250.toList)) = true then (cambistlaw02_LabelBetween.j1 kj5 l1 l3 t249 t250 bt263.1 bt263.2 true) else ((label_End.f t250).bind fun t265 => (if ((Op.bytesLess bt261.1.toList t265.toList) = true) then (if t250.size + 1 ≤ 9223372036854775807 then (cambistlaw02_LabelBetween.j1 kj5 l1 l3 t249 t250 bt263.1 bt263.2 (Op.bytesLess bt261.1.toList ((t250 ++ (⟨#[124]⟩ : ByteArray)).toList))) else (none)) else (cambistlaw02_LabelBetween.j1 kj5 l1 l3 t249 t250 bt263.1 bt263.2 true)))) else (cambistlaw02_LabelBetween.j1 kj5 l1 l3 t249 t250 bt263.1 bt263.2 false)) else (some t249)))) else (none))) else (none)) = some r := by first | (rw [hy252]; with_reducible exact H) | (have H2_ := (Option.bind_some _ _).symm.trans H; rw [hy252]; with_reducible exact H2_) | (have H2_ := (Option.bind_some _ _).symm.trans H; with_reducible exact H2_) | with_reducible exact H | (rw [hy252]; exact H) | exact H
        have Ny252 := Aside0.mk hy252
        clear hy252
        by_cases c12 : y252.length + l1.length < 8796093022208
        · rw [if_pos c12] at H
          have LMc12 := Aside0.mk c12
          clear c12
          obtain ⟨y255, hy255⟩ : ∃ y_ : List ByteArray, y_ = (y252 ++ l1) := ⟨_, rfl⟩
          replace H : (if y255.length < 8796093022208 then ((label_Key.f kj5 a0 (y255 ++ [a2])).bind fun bt261 => ((label_Key.f kj5 a0 l3).bind fun bt263 => (if t251 = 0 then (if bt261.2 = 0 then (if ((Op.bytesLess bt261.1.toList t250.toList) || (bt261.1.toList == t250.toList)) = true then (cambistlaw02_LabelBetween.j1 kj5 l1 l3 t249 t250 bt263.1 bt263.2 true) else ((label_End.f t250).bind fun t265 => (if ((Op.bytesLess bt261.1.toList t265.toList) = true) then (if t250.size + 1 ≤ 9223372036854775807 then (cambistlaw02_LabelBetween.j1 kj5 l1 l3 t249 t250 bt263.1 bt263.2 (Op.bytesLess bt261.1.toList ((t250 ++ (⟨#[124]⟩ : ByteArray)).toList))) else (none)) else (cambistlaw02_LabelBetween.j1 kj5 l1 l3 t249 t250 bt263.1 bt263.2 true)))) else (cambistlaw02_LabelBetween.j1 kj5 l1 l3 t249 t250 bt263.1 bt263.2 false)) else (some t249)))) else (none)) = some r := by first | (rw [hy255]; with_reducible exact H) | (have H2_ := (Option.bind_some _ _).symm.trans H; rw [hy255]; with_reducible exact H2_) | (have H2_ := (Option.bind_some _ _).symm.trans H; with_reducible exact H2_) | with_reducible exact H | (rw [hy255]; exact H) | exact H
          have Ny255 := Aside0.mk hy255
          clear hy255
          by_cases c13 : y255.length < 8796093022208
          · rw [if_pos c13] at H
            have LMc13 := Aside0.mk c13
            clear c13
            obtain ⟨y258, hy258⟩ : ∃ y_ : List ByteArray, y_ = (y255 ++ [a2]) := ⟨_, rfl⟩
            replace H : ((label_Key.f kj5 a0 y258).bind fun bt261 => ((label_Key.f kj5 a0 l3).bind fun bt263 => (if t251 = 0 then (if bt261.2 = 0 then (if ((Op.bytesLess bt261.1.toList t250.toList) || (bt261.1.toList == t250.toList)) = true then (cambistlaw02_LabelBetween.j1 kj5 l1 l3 t249 t250 bt263.1 bt263.2 true) else ((label_End.f t250).bind fun t265 => (if ((Op.bytesLess bt261.1.toList t265.toList) = true) then (if t250.size + 1 ≤ 9223372036854775807 then (cambistlaw02_LabelBetween.j1 kj5 l1 l3 t249 t250 bt263.1 bt263.2 (Op.bytesLess bt261.1.toList ((t250 ++ (⟨#[124]⟩ : ByteArray)).toList))) else (none)) else (cambistlaw02_LabelBetween.j1 kj5 l1 l3 t249 t250 bt263.1 bt263.2 true)))) else (cambistlaw02_LabelBetween.j1 kj5 l1 l3 t249 t250 bt263.1 bt263.2 false)) else (some t249)))) = some r := by first | (rw [hy258]; with_reducible exact H) | (have H2_ := (Option.bind_some _ _).symm.trans H; rw [hy258]; with_reducible exact H2_) | (have H2_ := (Option.bind_some _ _).symm.trans H; with_reducible exact H2_) | with_reducible exact H | (rw [hy258]; exact H) | exact H
            have Ny258 := Aside0.mk hy258
            clear hy258
            replace H := Option.bind_eq_some_iff.mp H
            obtain ⟨⟨t261, t262⟩, A140, H⟩ := H
            replace H : ((label_Key.f kj5 a0 l3).bind fun bt263 => (if t251 = 0 then (if t262 = 0 then (if ((Op.bytesLess t261.toList t250.toList) || (t261.toList == t250.toList)) = true then (cambistlaw02_LabelBetween.j1 kj5 l1 l3 t249 t250 bt263.1 bt263.2 true) else ((label_End.f t250).bind fun t265 => (if ((Op.bytesLess t261.toList t265.toList) = true) then (if t250.size + 1 ≤ 9223372036854775807 then (cambistlaw02_LabelBetween.j1 kj5 l1 l3 t249 t250 bt263.1 bt263.2 (Op.bytesLess t261.toList ((t250 ++ (⟨#[124]⟩ : ByteArray)).toList))) else (none)) else (cambistlaw02_LabelBetween.j1 kj5 l1 l3 t249 t250 bt263.1 bt263.2 true)))) else (cambistlaw02_LabelBetween.j1 kj5 l1 l3 t249 t250 bt263.1 bt263.2 false)) else (some t249))) = some r := H
            have A14 := Aside0.mk A140
            clear A140
            replace H := Option.bind_eq_some_iff.mp H
            obtain ⟨⟨t263, t264⟩, A150, H⟩ := H
            replace H : (if t251 = 0 then (if t262 = 0 then (if ((Op.bytesLess t261.toList t250.toList) || (t261.toList == t250.toList)) = true then (cambistlaw02_LabelBetween.j1 kj5 l1 l3 t249 t250 t263 t264 true) else ((label_End.f t250).bind fun t265 => (if ((Op.bytesLess t261.toList t265.toList) = true) then (if t250.size + 1 ≤ 9223372036854775807 then (cambistlaw02_LabelBetween.j1 kj5 l1 l3 t249 t250 t263 t264 (Op.bytesLess t261.toList ((t250 ++ (⟨#[124]⟩ : ByteArray)).toList))) else (none)) else (cambistlaw02_LabelBetween.j1 kj5 l1 l3 t249 t250 t263 t264 true)))) else (cambistlaw02_LabelBetween.j1 kj5 l1 l3 t249 t250 t263 t264 false)) else (some t249)) = some r := H
            have A15 := Aside0.mk A150
            clear A150
            by_cases c16 : t251 = 0
            · rw [if_pos c16] at H
              have c16b0 : (t251 == 0) = true := beq_iff_eq.mpr c16
              have c16b1 : (t251 != 0) = false := bne_eq_false_iff_eq.mpr c16
              clear c16
              have HC17 := Aside0.mk H
              clear H
              go_upto_region 9 with (first | ((with_reducible refine gate_callee (f := 22) rfl ?_); refine goesL_ (some 35) rfl rfl Tryd.func22 (by kernel_rfl) rfl #[.int .u8 a0, .slice A1 l1.length c1] rfl (by (try simp only [List.map_toArray, List.map_cons, List.map_nil]); first | done | rfl | (simp only [List.length_drop, List.length_take]; rfl)) ?_; (with_reducible refine (label_Key.calls kj5 a0 _ _ l1 t250 t251 _ ?side1 ?side2 ?side3 A11.out).mono ?_); (case side1 => exact Glob.below HG.out (by repeat (first | (with_reducible first | exact HB.out | apply below_alloc | apply pw_below_drewN | apply below_drew1) | exact HB.out))); (case side2 => repeat (first | exact (Kd.C_below HR1.out HB.out) | (with_reducible refine Kd.C_alloc ?_ _) | (with_reducible refine Kd.C_drewN ?_ _) | (with_reducible refine Kd.C_drew ?_))); (case side3 => exact HC1.out); rintro e w18 ⟨rfl, hb⟩; refine ⟨_, rfl, ?_⟩; have n0_ := Aside0.mk (below_step (by repeat (first | (with_reducible first | exact HB.out | apply below_alloc | apply pw_below_drewN | apply below_drew1) | exact HB.out)) hb); clear HB; have HB := n0_; clear n0_; (try clear hb); (try clear hb2); (try clear hk); (try clear hi)) | ((with_reducible refine gate_dst (N := 40) rfl ?_); (try (refine gate_guard (by rfl) ?_; dsimp only)); refine Kd.R_lit Kd.string _ 9 ?hg (N := 40) ?hd (xs := ([] : List ByteArray)) (inner := []) (ok := fun _ => True) (okp := fun _ => True) ?hr ?hp (fun _ hk => hk) trivial (Below.refl _ _) (Nat.le_refl _) (by simp) ?_; (case hd => rfl); (case hg => rfl); (case hr => first | (go_simp; done) | (go_simp; rfl)); (case hp => exact (Reps.none _ _)); intro v253 w19 ho20 hb hg_ hnew_; clear hg_ hnew_; (first | rw [← Ny252.out] at ho20 | (simp only [Int.reduceToNat] at ho20; rw [← Ny252.out] at ho20)); have n0_ := Aside0.mk (Kd.R_lower ho20 (below_size (by repeat (first | (with_reducible first | exact HB.out | apply below_alloc | apply pw_below_drewN | apply below_drew1) | exact HB.out)))); have n1_ := Aside0.mk (below_step (by repeat (first | (with_reducible first | exact HB.out | apply below_alloc | apply pw_below_drewN | apply below_drew1) | exact HB.out)) hb); clear HB; have HO254 := n0_; have HB := n1_; clear n0_ n1_; clear hb ho20) | ((with_reducible refine gate_builtin (b := .append) (xs := #[.tmp 40, .tmp 41]) rfl ?_); (try (refine gate_guard (by rfl) ?_; dsimp only)); at_builtin; refine Kd.R_append_rows Kd.string (w0 := w) w.heap.size rfl (.tmp 40) (.tmp 41) 31 9 (.string ⟨#[]⟩) 16 rfl Tryd.underlying31 info9 rfl (by decide) (by omega) v253 y252 l1 _ _ _ (fun _ => True) (fun _ => False) rfl rfl ?aO ?aR (fun _ _ h => h) (fun _ h => h.elim) ?aF ?aB ?aS ?aL ?_; (case aR => repeat (first | exact (Kd.C_below HR1.out HB.out) | (with_reducible refine Kd.C_alloc ?_ _) | (with_reducible refine Kd.C_drewN ?_ _) | (with_reducible refine Kd.C_drew ?_))); (case aB => exact (by repeat (first | (with_reducible first | exact HB.out | apply below_alloc | apply pw_below_drewN | apply below_drew1) | exact HB.out))); (case aF => exact (fun _ _ => trivial)); (case aO => exact (by (with_reducible repeat (first | apply Kd.R_alloc | apply Kd.R_drewN | apply Kd.R_drew)); exact HO254.out)); (case aS => exact (below_size (by repeat (first | (with_reducible first | exact HB.out | apply below_alloc | apply pw_below_drewN | apply below_drew1) | exact HB.out)))); (case aL => have := LMc12.out; omega); intro v256 w21 ho hb hg hat; rw [← Ny255.out] at ho; have n0_ := Aside0.mk (hb); have n1_ := Aside0.mk (ho); clear HB; clear HO254; have HB := n0_; have HO257 := n1_; clear n0_ n1_; clear ho hb hg hat) | ((with_reducible refine gate_builtin (b := .append) (xs := #[.tmp 42, .tmp 44]) rfl ?_); (try (refine gate_guard (by rfl) ?_; dsimp only)); at_builtin; refine Kd.R_append Kd.string (w0 := w) w.heap.size rfl (.tmp 42) (.tmp 44) 31 9 (.string ⟨#[]⟩) 16 rfl Tryd.underlying31 info9 rfl (by decide) (by omega) v256 y255 a2 [.string a2] (fun _ => True) (fun _ => False) rfl rfl ?aP (fun _ hk => hk.elim) ?aF ?aO ?aB ?aS ?aL ?_; (case aP => exact rfl); (case aB => exact (by repeat (first | (with_reducible first | exact HB.out | apply below_alloc | apply pw_below_drewN | apply below_drew1) | exact HB.out))); (case aF => exact (fun _ _ => trivial)); (case aO => exact (by (with_reducible repeat (first | apply Kd.R_alloc | apply Kd.R_drewN | apply Kd.R_drew)); exact HO257.out)); (case aS => exact (below_size (by repeat (first | (with_reducible first | exact HB.out | apply below_alloc | apply pw_below_drewN | apply below_drew1) | exact HB.out)))); (case aL => have := LMc13.out; omega); intro v259 w22 ho hb hg hat; rw [← Ny258.out] at ho; have n0_ := Aside0.mk (hb); have n1_ := Aside0.mk (ho); clear HB; clear HO257; have HB := n0_; have HO260 := n1_; clear n0_ n1_; clear ho hb hg hat; obtain ⟨Ao23, co23, eo23⟩ := Kd.R_slice HO260.out; subst eo23) | ((with_reducible refine gate_callee (f := 22) rfl ?_); refine goesL_ (some 46) rfl rfl Tryd.func22 (by kernel_rfl) rfl #[.int .u8 a0, .slice Ao23 y258.length co23] rfl (by (try simp only [List.map_toArray, List.map_cons, List.map_nil]); first | done | rfl | (simp only [List.length_drop, List.length_take]; rfl)) ?_; (with_reducible refine (label_Key.calls kj5 a0 _ _ y258 t261 t262 _ ?side1 ?side2 ?side3 A14.out).mono ?_); (case side1 => exact Glob.below HG.out (by repeat (first | (with_reducible first | exact HB.out | apply below_alloc | apply pw_below_drewN | apply below_drew1) | exact HB.out))); (case side2 => repeat (first | exact (Kd.R_reads' HO260.out).2.2 | (with_reducible refine Kd.C_alloc ?_ _) | (with_reducible refine Kd.C_drewN ?_ _) | (with_reducible refine Kd.C_drew ?_))); (case side3 => exact (Kd.R_reads' HO260.out).2.1); rintro e w24 ⟨rfl, hb⟩; refine ⟨_, rfl, ?_⟩; have n0_ := Aside0.mk (Kd.R_below (by (with_reducible repeat (first | apply Kd.R_alloc | apply Kd.R_drewN | apply Kd.R_drew)); exact HO260.out) hb); have n1_ := Aside0.mk (below_step (by repeat (first | (with_reducible first | exact HB.out | apply below_alloc | apply pw_below_drewN | apply below_drew1) | exact HB.out)) hb); clear HO260; clear HB; have HO260 := n0_; have HB := n1_; clear n0_ n1_; (try clear hb); (try clear hb2); (try clear hk); (try clear hi)) | ((with_reducible refine gate_callee (f := 22) rfl ?_); refine goesL_ (some 52) rfl rfl Tryd.func22 (by kernel_rfl) rfl #[.int .u8 a0, .slice A3 l3.length c3] rfl (by (try simp only [List.map_toArray, List.map_cons, List.map_nil]); first | done | rfl | (simp only [List.length_drop, List.length_take]; rfl)) ?_; (with_reducible refine (label_Key.calls kj5 a0 _ _ l3 t263 t264 _ ?side1 ?side2 ?side3 A15.out).mono ?_); (case side1 => exact Glob.below HG.out (by repeat (first | (with_reducible first | exact HB.out | apply below_alloc | apply pw_below_drewN | apply below_drew1) | exact HB.out))); (case side2 => repeat (first | exact (Kd.C_below HR3.out HB.out) | (with_reducible refine Kd.C_alloc ?_ _) | (with_reducible refine Kd.C_drewN ?_ _) | (with_reducible refine Kd.C_drew ?_))); (case side3 => exact HC3.out); rintro e w25 ⟨rfl, hb⟩; refine ⟨_, rfl, ?_⟩; have n0_ := Aside0.mk (Kd.R_below (by (with_reducible repeat (first | apply Kd.R_alloc | apply Kd.R_drewN | apply Kd.R_drew)); exact HO260.out) hb); have n1_ := Aside0.mk (below_step (by repeat (first | (with_reducible first | exact HB.out | apply below_alloc | apply pw_below_drewN | apply below_drew1) | exact HB.out)) hb); clear HO260; clear HB; have HO260 := n0_; have HB := n1_; clear n0_ n1_; (try clear hb); (try clear hb2); (try clear hk); (try clear hi)))
              (try simp only [Act.put, List.setIfInBounds_toArray, List.set_cons_zero, List.set_cons_succ])
              go_cut [76] (fun v76 wc => ∃ (kq : Nat) (x76_16 : Bool), v76 = .bool x76_16 ∧ Aside0 (cambistlaw02_LabelBetween.j1 kq l1 l3 t249 t250 t263 t264 x76_16 = some r) ∧ Aside0 (kq ≤ kj5) ∧ Aside0 (Below w.heap.size w wc))
              case first =>
                have H := HC17.out
                clear HC17
                by_cases c26 : t262 = 0
                · rw [if_pos c26] at H
                  have c26b0 : (t262 == 0) = true := beq_iff_eq.mpr c26
                  have c26b1 : (t262 != 0) = false := bne_eq_false_iff_eq.mpr c26
                  clear c26
                  (first | rw [c26b0] | (simp only [i64_w, i32_w]; rw [c26b0]) | skip)
                  by_cases c27 : ((Op.bytesLess t261.toList t250.toList) || (t261.toList == t250.toList)) = true
                  · rw [if_pos c27] at H
                    have c27b0 : ((Op.bytesLess t261.toList t250.toList) || (t261.toList == t250.toList)) = true := c27
                    clear c27
                    (try rw [c27b0])
                    have H' := Aside0.mk H
                    clear H
                    go_wp2
                    go_meet
                    case rel => exact ⟨_, (true), (by first | rfl | (simp; done) | (simp [*]; done)), H', ⟨by have := HJ5.out; first | omega | exact Nat.le_refl _⟩, ⟨by repeat (first | (with_reducible first | exact HB.out | apply below_alloc | apply pw_below_drewN | apply below_drew1) | exact HB.out)⟩⟩
                  · rw [if_neg c27] at H
                    have c27b0 : ((Op.bytesLess t261.toList t250.toList) || (t261.toList == t250.toList)) = false := by simpa using c27
                    clear c27
                    (try rw [c27b0])
                    replace H := Option.bind_eq_some_iff.mp H
                    obtain ⟨t265, A280, H⟩ := H
                    replace H : (if ((Op.bytesLess t261.toList t265.toList) = true) then (if t250.size + 1 ≤ 9223372036854775807 then (cambistlaw02_LabelBetween.j1 kj5 l1 l3 t249 t250 t263 t264 (Op.bytesLess t261.toList ((t250 ++ (⟨#[124]⟩ : ByteArray)).toList))) else (none)) else (cambistlaw02_LabelBetween.j1 kj5 l1 l3 t249 t250 t263 t264 true)) = some r := H
                    have A28 := Aside0.mk A280
                    clear A280
                    by_cases c29 : ((Op.bytesLess t261.toList t265.toList) = true)
                    · rw [if_pos c29] at H
                      have c29b0 : (Op.bytesLess t261.toList t265.toList) = true := c29
                      clear c29
                      (try rw [c29b0])
                      by_cases c30 : t250.size + 1 ≤ 9223372036854775807
                      · rw [if_pos c30] at H
                        have c30b0 := eq_true c30
                        have c30b1 : decide (t250.size + 1 ≤ 9223372036854775807) = true := decide_eq_true c30
                        try have c30b2 : (9223372036854775807 < t250.size + 1) = False := eq_false (Nat.not_lt.2 c30)
                        have H' := Aside0.mk H
                        clear H
                        go_wp2_with (first | (go_at_call 20; (with_reducible refine (label_End.calls t250 t265 _ ?side1 A28.out).mono ?_); (case side1 => exact Glob.below HG.out (by repeat (first | (with_reducible first | exact HB.out | apply below_alloc | apply pw_below_drewN | apply below_drew1) | exact HB.out))); rintro e w' ⟨rfl, ⟨nd, rfl⟩⟩))
                        go_meet
                        case rel => exact ⟨_, ((Op.bytesLess t261.toList ((t250 ++ (⟨#[124]⟩ : ByteArray)).toList))), (by first | rfl | (simp; done) | (simp [*]; done)), H', ⟨by have := HJ5.out; first | omega | exact Nat.le_refl _⟩, ⟨by repeat (first | (with_reducible first | exact HB.out | apply below_alloc | apply pw_below_drewN | apply below_drew1) | exact HB.out)⟩⟩
                      · rw [if_neg c30] at H
                        exact absurd H (by simp)
                    · rw [if_neg c29] at H
                      have c29b0 : (Op.bytesLess t261.toList t265.toList) = false := by simpa using c29
                      clear c29
                      (try rw [c29b0])
                      have H' := Aside0.mk H
                      clear H
                      go_wp2_with (first | (go_at_call 20; (with_reducible refine (label_End.calls t250 t265 _ ?side1 A28.out).mono ?_); (case side1 => exact Glob.below HG.out (by repeat (first | (with_reducible first | exact HB.out | apply below_alloc | apply pw_below_drewN | apply below_drew1) | exact HB.out))); rintro e w' ⟨rfl, ⟨nd, rfl⟩⟩))
                      go_meet
                      case rel => exact ⟨_, (true), (by first | rfl | (simp; done) | (simp [*]; done)), H', ⟨by have := HJ5.out; first | omega | exact Nat.le_refl _⟩, ⟨by repeat (first | (with_reducible first | exact HB.out | apply below_alloc | apply pw_below_drewN | apply below_drew1) | exact HB.out)⟩⟩
                · rw [if_neg c26] at H
                  have c26b0 : (t262 == 0) = false := beq_eq_false_iff_ne.mpr c26
                  have c26b1 : (t262 != 0) = true := bne_iff_ne.mpr c26
                  (first | rw [c26b0] | (simp only [i64_w, i32_w]; rw [c26b0]) | skip)
                  have H' := Aside0.mk H
                  clear H
                  go_wp2
                  go_meet
                  case rel => exact ⟨_, (false), (by first | rfl | (simp; done) | (simp [*]; done)), H', ⟨by have := HJ5.out; first | omega | exact Nat.le_refl _⟩, ⟨by repeat (first | (with_reducible first | exact HB.out | apply below_alloc | apply pw_below_drewN | apply below_drew1) | exact HB.out)⟩⟩
              case rest =>
                clear HC17
                try clear c1
                try clear c2
                try clear p2
                try clear c3
                try clear c8
                try clear c8b0
                try clear c8b1
                try clear c9
                try clear c9b0
                try clear c9b1
                try clear c10
                try clear c12
                try clear c13
                try clear c16
                try clear c16b0
                try clear c16b1
                try clear c22
                try clear c26
                try clear c26b0
                try clear c26b1
                try clear c27
                try clear c27b0
                try clear c29
                try clear c29b0
                try clear c30
                try clear c30b0
                try clear c30b1
                try clear c30b2
                try clear p2
                obtain ⟨kq, x76_16, rfl, HA, HJ16, HB⟩ := hcut
                cases kq with
                | zero => exact absurd HA.out (by simp [cambistlaw02_LabelBetween.j1])
                | succ kj16 =>
                  have H := HA.out
                  clear HA
                  simp only [cambistlaw02_LabelBetween.j1] at H
                  by_cases c31 : x76_16 = true
                  · subst c31
                    have H1 : (none) = some r := by rw [if_pos rfl] at H; exact H
                    clear H
                    have H := H1
                    clear H1
                    exact absurd H (by simp)
                  · replace c31 := Bool.eq_false_iff.mpr c31
                    subst c31
                    have H1 : (if t264 = 0 then (cambistlaw02_LabelBetween.j2 kj16 l1 l3 t249 t250 t263 (decide ((l3.length : Int) < (l1.length : Int)))) else (cambistlaw02_LabelBetween.j2 kj16 l1 l3 t249 t250 t263 true)) = some r := by rw [if_neg (show ¬ (false = true) by decide)] at H; exact H
                    clear H
                    have H := H1
                    clear H1
                    have HC32 := Aside0.mk H
                    clear H
                    go_upto_region 11 with (fail)
                    go_cut [85] (fun v85 wc => ∃ (kq : Nat) (x85_31 : Bool), v85 = .bool x85_31 ∧ Aside0 (cambistlaw02_LabelBetween.j2 kq l1 l3 t249 t250 t263 x85_31 = some r) ∧ Aside0 (kq ≤ kj16) ∧ Aside0 (Below w.heap.size w wc))
                    case first =>
                      have H := HC32.out
                      clear HC32
                      by_cases c33 : t264 = 0
                      · rw [if_pos c33] at H
                        have c33b0 : (t264 == 0) = true := beq_iff_eq.mpr c33
                        have c33b1 : (t264 != 0) = false := bne_eq_false_iff_eq.mpr c33
                        clear c33
                        (first | rw [c33b0] | (simp only [i64_w, i32_w]; rw [c33b0]) | skip)
                        have H' := Aside0.mk H
                        clear H
                        go_wp2
                        go_meet
                        case rel => exact ⟨_, (decide ((l3.length : Int) < (l1.length : Int))), (by first | rfl | (simp; done) | (simp [*]; done)), H', ⟨by have := HJ5.out; have := HJ16.out; first | omega | exact Nat.le_refl _⟩, ⟨by repeat (first | (with_reducible first | exact HB.out | apply below_alloc | apply pw_below_drewN | apply below_drew1) | exact HB.out)⟩⟩
                      · rw [if_neg c33] at H
                        have c33b0 : (t264 == 0) = false := beq_eq_false_iff_ne.mpr c33
                        have c33b1 : (t264 != 0) = true := bne_iff_ne.mpr c33
                        (first | rw [c33b0] | (simp only [i64_w, i32_w]; rw [c33b0]) | skip)
                        have H' := Aside0.mk H
                        clear H
                        go_wp2
                        go_meet
                        case rel => exact ⟨_, (true), (by first | rfl | (simp; done) | (simp [*]; done)), H', ⟨by have := HJ5.out; have := HJ16.out; first | omega | exact Nat.le_refl _⟩, ⟨by repeat (first | (with_reducible first | exact HB.out | apply below_alloc | apply pw_below_drewN | apply below_drew1) | exact HB.out)⟩⟩
                    case rest =>
                      clear HC32
                      try clear c1
                      try clear c2
                      try clear p2
                      try clear c3
                      try clear c8
                      try clear c8b0
                      try clear c8b1
                      try clear c9
                      try clear c9b0
                      try clear c9b1
                      try clear c10
                      try clear c12
                      try clear c13
                      try clear c16
                      try clear c16b0
                      try clear c16b1
                      try clear c22
                      try clear c26
                      try clear c26b0
                      try clear c26b1
                      try clear c27
                      try clear c27b0
                      try clear c29
                      try clear c29b0
                      try clear c30
                      try clear c30b0
                      try clear c30b1
                      try clear c30b2
                      try clear c31
                      try clear c33
                      try clear c33b0
                      try clear c33b1
                      try clear p2
                      obtain ⟨kq, x85_31, rfl, HA, HJ31, HB⟩ := hcut
                      cases kq with
                      | zero => exact absurd HA.out (by simp [cambistlaw02_LabelBetween.j2])
                      | succ kj31 =>
                        have H := HA.out
                        clear HA
                        simp only [cambistlaw02_LabelBetween.j2] at H
                        by_cases c34 : x85_31 = true
                        · subst c34
                          have H1 : (some t249) = some r := by rw [if_pos rfl] at H; exact H
                          clear H
                          have H := H1
                          clear H1
                          obtain rfl := Option.some.inj H
                          go_wp2
                          go_ret
                          exact ⟨by first | rfl | (simp [errW_none, errW_some] <;> rfl) | (simp [*, errW_none, errW_some] <;> rfl), by repeat (first | (with_reducible first | exact HB.out | apply below_alloc | apply pw_below_drewN | apply below_drew1) | exact HB.out)⟩
                        · replace c34 := Bool.eq_false_iff.mpr c34
                          subst c34
                          have H1 : (if 0 ≤ (l1.length : Int) then (if (l1.length : Int) ≤ (l3.length : Int) then ((cambistref02_Same.f kj31 (l3.take ((l1.length : Int) : Int).toNat) l1).bind fun t267 => (if t267 = true then (if t249 = true then (if t250.size + 1 ≤ 9223372036854775807 then (if (((Op.bytesLess t263.toList ((t250 ++ (⟨#[124]⟩ : ByteArray)).toList)) || (t263.toList == ((t250 ++ (⟨#[124]⟩ : ByteArray)).toList))) = true) then (some (false == (decide ((l3.length : Int) > (l1.length : Int))))) else ((label_End.f t250).bind fun t268 => (some ((Op.bytesLess t263.toList t268.toList) == (decide ((l3.length : Int) > (l1.length : Int))))))) else (none)) else (none)) else (if t249 = true then (if t250.size + 1 ≤ 9223372036854775807 then (if (((Op.bytesLess t263.toList ((t250 ++ (⟨#[124]⟩ : ByteArray)).toList)) || (t263.toList == ((t250 ++ (⟨#[124]⟩ : ByteArray)).toList))) = true) then (some (false == false)) else ((label_End.f t250).bind fun t269 => (some ((Op.bytesLess t263.toList t269.toList) == false)))) else (none)) else (none)))) else (none)) else (none)) = some r := by rw [if_neg (show ¬ (false = true) by decide)] at H; exact H
                          clear H
                          have H := H1
                          clear H1
                          by_cases c35 : 0 ≤ (l1.length : Int)
                          · rw [if_pos c35] at H
                            have c35b0 := eq_true c35
                            have c35b1 : decide (0 ≤ (l1.length : Int)) = true := decide_eq_true c35
                            clear c35
                            by_cases c36 : (l1.length : Int) ≤ (l3.length : Int)
                            · rw [if_pos c36] at H
                              have c36b0 := eq_true c36
                              have c36b1 : decide ((l1.length : Int) ≤ (l3.length : Int)) = true := decide_eq_true c36
                              clear c36
                              replace H := Option.bind_eq_some_iff.mp H
                              obtain ⟨t267, A370, H⟩ := H
                              replace H : (if t267 = true then (if t249 = true then (if t250.size + 1 ≤ 9223372036854775807 then (if (((Op.bytesLess t263.toList ((t250 ++ (⟨#[124]⟩ : ByteArray)).toList)) || (t263.toList == ((t250 ++ (⟨#[124]⟩ : ByteArray)).toList))) = true) then (some (false == (decide ((l3.length : Int) > (l1.length : Int))))) else ((label_End.f t250).bind fun t268 => (some ((Op.bytesLess t263.toList t268.toList) == (decide ((l3.length : Int) > (l1.length : Int))))))) else (none)) else (none)) else (if t249 = true then (if t250.size + 1 ≤ 9223372036854775807 then (if (((Op.bytesLess t263.toList ((t250 ++ (⟨#[124]⟩ : ByteArray)).toList)) || (t263.toList == ((t250 ++ (⟨#[124]⟩ : ByteArray)).toList))) = true) then (some (false == false)) else ((label_End.f t250).bind fun t269 => (some ((Op.bytesLess t263.toList t269.toList) == false)))) else (none)) else (none))) = some r := H
                              have A37 := Aside0.mk A370
                              clear A370
                              by_cases c38 : t267 = true
                              · subst c38
                                have H1 : (if t249 = true then (if t250.size + 1 ≤ 9223372036854775807 then (if (((Op.bytesLess t263.toList ((t250 ++ (⟨#[124]⟩ : ByteArray)).toList)) || (t263.toList == ((t250 ++ (⟨#[124]⟩ : ByteArray)).toList))) = true) then (some (false == (decide ((l3.length : Int) > (l1.length : Int))))) else ((label_End.f t250).bind fun t268 => (some ((Op.bytesLess t263.toList t268.toList) == (decide ((l3.length : Int) > (l1.length : Int))))))) else (none)) else (none)) = some r := by rw [if_pos rfl] at H; exact H
                                clear H
                                have H := H1
                                clear H1
                                by_cases c39 : t249 = true
                                · subst c39
                                  have H1 : (if t250.size + 1 ≤ 9223372036854775807 then (if (((Op.bytesLess t263.toList ((t250 ++ (⟨#[124]⟩ : ByteArray)).toList)) || (t263.toList == ((t250 ++ (⟨#[124]⟩ : ByteArray)).toList))) = true) then (some (false == (decide ((l3.length : Int) > (l1.length : Int))))) else ((label_End.f t250).bind fun t268 => (some ((Op.bytesLess t263.toList t268.toList) == (decide ((l3.length : Int) > (l1.length : Int))))))) else (none)) = some r := by rw [if_pos rfl] at H; exact H
                                  clear H
                                  have H := H1
                                  clear H1
                                  by_cases c40 : t250.size + 1 ≤ 9223372036854775807
                                  · rw [if_pos c40] at H
                                    have c40b0 := eq_true c40
                                    have c40b1 : decide (t250.size + 1 ≤ 9223372036854775807) = true := decide_eq_true c40
                                    try have c40b2 : (9223372036854775807 < t250.size + 1) = False := eq_false (Nat.not_lt.2 c40)
                                    by_cases c41 : (((Op.bytesLess t263.toList ((t250 ++ (⟨#[124]⟩ : ByteArray)).toList)) || (t263.toList == ((t250 ++ (⟨#[124]⟩ : ByteArray)).toList))) = true)
                                    · rw [if_pos c41] at H
                                      have c41b0 : ((Op.bytesLess t263.toList ((t250 ++ (⟨#[124]⟩ : ByteArray)).toList)) || (t263.toList == ((t250 ++ (⟨#[124]⟩ : ByteArray)).toList))) = true := c41
                                      clear c41
                                      (try rw [c41b0])
                                      obtain rfl := Option.some.inj H
                                      obtain ⟨i042, hi042, _, hsz42, _⟩ := info_parts info9
                                      obtain ⟨hcut42, hA42, hC42⟩ := print_take_of (P := Tryd.prog) Value.string (⟨#[]⟩ : ByteArray) 31 9 .i64 Tryd.underlying31 hi042 hsz42 A3 c3 l3 (l1.length : Int) (of_decide_eq_true (by first | (with_reducible assumption) | assumption)) (of_decide_eq_true (by first | (with_reducible assumption) | assumption)) HC3.out
                                      have HR266 := Aside0.mk (Kd.C_of_reads (h1 := fun _ => rfl) (hA42 _ (Kd.reads_of_C HR3.out)))
                                      have HC266 := Aside0.mk hC42
                                      clear hA42 hC42 hi042 hsz42
                                      go_wp2_with (first | ((with_reducible refine gate_callee (f := 26) rfl ?_); refine goesL_ (some 92) rfl rfl Tryd.func26 (by kernel_rfl) rfl #[.slice A3 (l3.take ((l1.length : Int) : Int).toNat).length c3, .slice A1 l1.length c1] rfl (by (try simp only [List.map_toArray, List.map_cons, List.map_nil]); first | done | (rw [show (l3.take ((l1.length : Int) : Int).toNat).length = (l1.length : Int).toNat from (by rw [List.length_take]; have h_ : ((l1.length : Int) : Int) ≤ (l3.length : Int) := of_decide_eq_true (by first | (with_reducible assumption) | assumption); omega)] <;> rfl) | rfl | (simp only [List.length_drop, List.length_take]; rfl)) ?_; (with_reducible refine (cambistref02_Same.calls kj31 _ _ (l3.take ((l1.length : Int) : Int).toNat) _ _ l1 true _ ?side1 ?side2 ?side3 ?side4 ?side5 A37.out).mono ?_); (case side1 => exact Glob.below HG.out (by repeat (first | (with_reducible first | exact HB.out | apply below_alloc | apply pw_below_drewN | apply below_drew1) | exact HB.out))); (case side2 => repeat (first | exact (Kd.C_below HR266.out HB.out) | (with_reducible refine Kd.C_alloc ?_ _) | (with_reducible refine Kd.C_drewN ?_ _) | (with_reducible refine Kd.C_drew ?_))); (case side3 => exact HC266.out); (case side4 => repeat (first | exact (Kd.C_below HR1.out HB.out) | (with_reducible refine Kd.C_alloc ?_ _) | (with_reducible refine Kd.C_drewN ?_ _) | (with_reducible refine Kd.C_drew ?_))); (case side5 => exact HC1.out); rintro e w' ⟨rfl, ⟨nd, rfl⟩⟩; refine ⟨_, rfl, ?_⟩))
                                      go_ret
                                      exact ⟨by first | rfl | (simp [errW_none, errW_some] <;> rfl) | (simp [*, errW_none, errW_some] <;> rfl), by repeat (first | (with_reducible first | exact HB.out | apply below_alloc | apply pw_below_drewN | apply below_drew1) | exact HB.out)⟩
                                    · rw [if_neg c41] at H
                                      have c41b0 : ((Op.bytesLess t263.toList ((t250 ++ (⟨#[124]⟩ : ByteArray)).toList)) || (t263.toList == ((t250 ++ (⟨#[124]⟩ : ByteArray)).toList))) = false := by simpa using c41
                                      clear c41
                                      (try rw [c41b0])
                                      replace H := Option.bind_eq_some_iff.mp H
                                      obtain ⟨t268, A430, H⟩ := H
                                      replace H : (some ((Op.bytesLess t263.toList t268.toList) == (decide ((l3.length : Int) > (l1.length : Int))))) = some r := H
                                      have A43 := Aside0.mk A430
                                      clear A430
                                      obtain rfl := Option.some.inj H
                                      obtain ⟨i044, hi044, _, hsz44, _⟩ := info_parts info9
                                      obtain ⟨hcut44, hA44, hC44⟩ := print_take_of (P := Tryd.prog) Value.string (⟨#[]⟩ : ByteArray) 31 9 .i64 Tryd.underlying31 hi044 hsz44 A3 c3 l3 (l1.length : Int) (of_decide_eq_true (by first | (with_reducible assumption) | assumption)) (of_decide_eq_true (by first | (with_reducible assumption) | assumption)) HC3.out
                                      have HR266 := Aside0.mk (Kd.C_of_reads (h1 := fun _ => rfl) (hA44 _ (Kd.reads_of_C HR3.out)))
                                      have HC266 := Aside0.mk hC44
                                      clear hA44 hC44 hi044 hsz44
                                      go_wp2_with (first | ((with_reducible refine gate_callee (f := 26) rfl ?_); refine goesL_ (some 92) rfl rfl Tryd.func26 (by kernel_rfl) rfl #[.slice A3 (l3.take ((l1.length : Int) : Int).toNat).length c3, .slice A1 l1.length c1] rfl (by (try simp only [List.map_toArray, List.map_cons, List.map_nil]); first | done | (rw [show (l3.take ((l1.length : Int) : Int).toNat).length = (l1.length : Int).toNat from (by rw [List.length_take]; have h_ : ((l1.length : Int) : Int) ≤ (l3.length : Int) := of_decide_eq_true (by first | (with_reducible assumption) | assumption); omega)] <;> rfl) | rfl | (simp only [List.length_drop, List.length_take]; rfl)) ?_; (with_reducible refine (cambistref02_Same.calls kj31 _ _ (l3.take ((l1.length : Int) : Int).toNat) _ _ l1 true _ ?side1 ?side2 ?side3 ?side4 ?side5 A37.out).mono ?_); (case side1 => exact Glob.below HG.out (by repeat (first | (with_reducible first | exact HB.out | apply below_alloc | apply pw_below_drewN | apply below_drew1) | exact HB.out))); (case side2 => repeat (first | exact (Kd.C_below HR266.out HB.out) | (with_reducible refine Kd.C_alloc ?_ _) | (with_reducible refine Kd.C_drewN ?_ _) | (with_reducible refine Kd.C_drew ?_))); (case side3 => exact HC266.out); (case side4 => repeat (first | exact (Kd.C_below HR1.out HB.out) | (with_reducible refine Kd.C_alloc ?_ _) | (with_reducible refine Kd.C_drewN ?_ _) | (with_reducible refine Kd.C_drew ?_))); (case side5 => exact HC1.out); rintro e w' ⟨rfl, ⟨nd, rfl⟩⟩; refine ⟨_, rfl, ?_⟩) | (go_at_call 20; (with_reducible refine (label_End.calls t250 t268 _ ?side1 A43.out).mono ?_); (case side1 => exact Glob.below HG.out (by repeat (first | (with_reducible first | exact HB.out | apply below_alloc | apply pw_below_drewN | apply below_drew1) | exact HB.out))); rintro e w' ⟨rfl, ⟨nd, rfl⟩⟩))
                                      go_ret
                                      exact ⟨by first | rfl | (simp [errW_none, errW_some] <;> rfl) | (simp [*, errW_none, errW_some] <;> rfl), by repeat (first | (with_reducible first | exact HB.out | apply below_alloc | apply pw_below_drewN | apply below_drew1) | exact HB.out)⟩
                                  · rw [if_neg c40] at H
                                    exact absurd H (by simp)
                                · replace c39 := Bool.eq_false_iff.mpr c39
                                  subst c39
                                  have H1 : (none) = some r := by rw [if_neg (show ¬ (false = true) by decide)] at H; exact H
                                  clear H
                                  have H := H1
                                  clear H1
                                  exact absurd H (by simp)
                              · replace c38 := Bool.eq_false_iff.mpr c38
                                subst c38
                                have H1 : (if t249 = true then (if t250.size + 1 ≤ 9223372036854775807 then (if (((Op.bytesLess t263.toList ((t250 ++ (⟨#[124]⟩ : ByteArray)).toList)) || (t263.toList == ((t250 ++ (⟨#[124]⟩ : ByteArray)).toList))) = true) then (some (false == false)) else ((label_End.f t250).bind fun t269 => (some ((Op.bytesLess t263.toList t269.toList) == false)))) else (none)) else (none)) = some r := by rw [if_neg (show ¬ (false = true) by decide)] at H; exact H
                                clear H
                                have H := H1
                                clear H1
                                by_cases c45 : t249 = true
                                · subst c45
                                  have H1 : (if t250.size + 1 ≤ 9223372036854775807 then (if (((Op.bytesLess t263.toList ((t250 ++ (⟨#[124]⟩ : ByteArray)).toList)) || (t263.toList == ((t250 ++ (⟨#[124]⟩ : ByteArray)).toList))) = true) then (some (false == false)) else ((label_End.f t250).bind fun t269 => (some ((Op.bytesLess t263.toList t269.toList) == false)))) else (none)) = some r := by rw [if_pos rfl] at H; exact H
                                  clear H
                                  have H := H1
                                  clear H1
                                  by_cases c46 : t250.size + 1 ≤ 9223372036854775807
                                  · rw [if_pos c46] at H
                                    have c46b0 := eq_true c46
                                    have c46b1 : decide (t250.size + 1 ≤ 9223372036854775807) = true := decide_eq_true c46
                                    try have c46b2 : (9223372036854775807 < t250.size + 1) = False := eq_false (Nat.not_lt.2 c46)
                                    by_cases c47 : (((Op.bytesLess t263.toList ((t250 ++ (⟨#[124]⟩ : ByteArray)).toList)) || (t263.toList == ((t250 ++ (⟨#[124]⟩ : ByteArray)).toList))) = true)
                                    · rw [if_pos c47] at H
                                      have c47b0 : ((Op.bytesLess t263.toList ((t250 ++ (⟨#[124]⟩ : ByteArray)).toList)) || (t263.toList == ((t250 ++ (⟨#[124]⟩ : ByteArray)).toList))) = true := c47
                                      clear c47
                                      (try rw [c47b0])
                                      obtain rfl := Option.some.inj H
                                      obtain ⟨i048, hi048, _, hsz48, _⟩ := info_parts info9
                                      obtain ⟨hcut48, hA48, hC48⟩ := print_take_of (P := Tryd.prog) Value.string (⟨#[]⟩ : ByteArray) 31 9 .i64 Tryd.underlying31 hi048 hsz48 A3 c3 l3 (l1.length : Int) (of_decide_eq_true (by first | (with_reducible assumption) | assumption)) (of_decide_eq_true (by first | (with_reducible assumption) | assumption)) HC3.out
                                      have HR266 := Aside0.mk (Kd.C_of_reads (h1 := fun _ => rfl) (hA48 _ (Kd.reads_of_C HR3.out)))
                                      have HC266 := Aside0.mk hC48
                                      clear hA48 hC48 hi048 hsz48
                                      go_wp2_with (first | ((with_reducible refine gate_callee (f := 26) rfl ?_); refine goesL_ (some 92) rfl rfl Tryd.func26 (by kernel_rfl) rfl #[.slice A3 (l3.take ((l1.length : Int) : Int).toNat).length c3, .slice A1 l1.length c1] rfl (by (try simp only [List.map_toArray, List.map_cons, List.map_nil]); first | done | (rw [show (l3.take ((l1.length : Int) : Int).toNat).length = (l1.length : Int).toNat from (by rw [List.length_take]; have h_ : ((l1.length : Int) : Int) ≤ (l3.length : Int) := of_decide_eq_true (by first | (with_reducible assumption) | assumption); omega)] <;> rfl) | rfl | (simp only [List.length_drop, List.length_take]; rfl)) ?_; (with_reducible refine (cambistref02_Same.calls kj31 _ _ (l3.take ((l1.length : Int) : Int).toNat) _ _ l1 false _ ?side1 ?side2 ?side3 ?side4 ?side5 A37.out).mono ?_); (case side1 => exact Glob.below HG.out (by repeat (first | (with_reducible first | exact HB.out | apply below_alloc | apply pw_below_drewN | apply below_drew1) | exact HB.out))); (case side2 => repeat (first | exact (Kd.C_below HR266.out HB.out) | (with_reducible refine Kd.C_alloc ?_ _) | (with_reducible refine Kd.C_drewN ?_ _) | (with_reducible refine Kd.C_drew ?_))); (case side3 => exact HC266.out); (case side4 => repeat (first | exact (Kd.C_below HR1.out HB.out) | (with_reducible refine Kd.C_alloc ?_ _) | (with_reducible refine Kd.C_drewN ?_ _) | (with_reducible refine Kd.C_drew ?_))); (case side5 => exact HC1.out); rintro e w' ⟨rfl, ⟨nd, rfl⟩⟩; refine ⟨_, rfl, ?_⟩))
                                      go_ret
                                      exact ⟨by first | rfl | (simp [errW_none, errW_some] <;> rfl) | (simp [*, errW_none, errW_some] <;> rfl), by repeat (first | (with_reducible first | exact HB.out | apply below_alloc | apply pw_below_drewN | apply below_drew1) | exact HB.out)⟩
                                    · rw [if_neg c47] at H
                                      have c47b0 : ((Op.bytesLess t263.toList ((t250 ++ (⟨#[124]⟩ : ByteArray)).toList)) || (t263.toList == ((t250 ++ (⟨#[124]⟩ : ByteArray)).toList))) = false := by simpa using c47
                                      clear c47
                                      (try rw [c47b0])
                                      replace H := Option.bind_eq_some_iff.mp H
                                      obtain ⟨t269, A490, H⟩ := H
                                      replace H : (some ((Op.bytesLess t263.toList t269.toList) == false)) = some r := H
                                      have A49 := Aside0.mk A490
                                      clear A490
                                      obtain rfl := Option.some.inj H
                                      obtain ⟨i050, hi050, _, hsz50, _⟩ := info_parts info9
                                      obtain ⟨hcut50, hA50, hC50⟩ := print_take_of (P := Tryd.prog) Value.string (⟨#[]⟩ : ByteArray) 31 9 .i64 Tryd.underlying31 hi050 hsz50 A3 c3 l3 (l1.length : Int) (of_decide_eq_true (by first | (with_reducible assumption) | assumption)) (of_decide_eq_true (by first | (with_reducible assumption) | assumption)) HC3.out
                                      have HR266 := Aside0.mk (Kd.C_of_reads (h1 := fun _ => rfl) (hA50 _ (Kd.reads_of_C HR3.out)))
                                      have HC266 := Aside0.mk hC50
                                      clear hA50 hC50 hi050 hsz50
                                      go_wp2_with (first | ((with_reducible refine gate_callee (f := 26) rfl ?_); refine goesL_ (some 92) rfl rfl Tryd.func26 (by kernel_rfl) rfl #[.slice A3 (l3.take ((l1.length : Int) : Int).toNat).length c3, .slice A1 l1.length c1] rfl (by (try simp only [List.map_toArray, List.map_cons, List.map_nil]); first | done | (rw [show (l3.take ((l1.length : Int) : Int).toNat).length = (l1.length : Int).toNat from (by rw [List.length_take]; have h_ : ((l1.length : Int) : Int) ≤ (l3.length : Int) := of_decide_eq_true (by first | (with_reducible assumption) | assumption); omega)] <;> rfl) | rfl | (simp only [List.length_drop, List.length_take]; rfl)) ?_; (with_reducible refine (cambistref02_Same.calls kj31 _ _ (l3.take ((l1.length : Int) : Int).toNat) _ _ l1 false _ ?side1 ?side2 ?side3 ?side4 ?side5 A37.out).mono ?_); (case side1 => exact Glob.below HG.out (by repeat (first | (with_reducible first | exact HB.out | apply below_alloc | apply pw_below_drewN | apply below_drew1) | exact HB.out))); (case side2 => repeat (first | exact (Kd.C_below HR266.out HB.out) | (with_reducible refine Kd.C_alloc ?_ _) | (with_reducible refine Kd.C_drewN ?_ _) | (with_reducible refine Kd.C_drew ?_))); (case side3 => exact HC266.out); (case side4 => repeat (first | exact (Kd.C_below HR1.out HB.out) | (with_reducible refine Kd.C_alloc ?_ _) | (with_reducible refine Kd.C_drewN ?_ _) | (with_reducible refine Kd.C_drew ?_))); (case side5 => exact HC1.out); rintro e w' ⟨rfl, ⟨nd, rfl⟩⟩; refine ⟨_, rfl, ?_⟩) | (go_at_call 20; (with_reducible refine (label_End.calls t250 t269 _ ?side1 A49.out).mono ?_); (case side1 => exact Glob.below HG.out (by repeat (first | (with_reducible first | exact HB.out | apply below_alloc | apply pw_below_drewN | apply below_drew1) | exact HB.out))); rintro e w' ⟨rfl, ⟨nd, rfl⟩⟩))
                                      go_ret
                                      exact ⟨by first | rfl | (simp [errW_none, errW_some] <;> rfl) | (simp [*, errW_none, errW_some] <;> rfl), by repeat (first | (with_reducible first | exact HB.out | apply below_alloc | apply pw_below_drewN | apply below_drew1) | exact HB.out)⟩
                                  · rw [if_neg c46] at H
                                    exact absurd H (by simp)
                                · replace c45 := Bool.eq_false_iff.mpr c45
                                  subst c45
                                  have H1 : (none) = some r := by rw [if_neg (show ¬ (false = true) by decide)] at H; exact H
                                  clear H
                                  have H := H1
                                  clear H1
                                  exact absurd H (by simp)
                            · rw [if_neg c36] at H
                              exact absurd H (by simp)
                          · rw [if_neg c35] at H
                            exact absurd H (by simp)
            · rw [if_neg c16] at H
              have c16b0 : (t251 == 0) = false := beq_eq_false_iff_ne.mpr c16
              have c16b1 : (t251 != 0) = true := bne_iff_ne.mpr c16
              obtain rfl := Option.some.inj H
              go_wp2_with (first | ((with_reducible refine gate_callee (f := 22) rfl ?_); refine goesL_ (some 35) rfl rfl Tryd.func22 (by kernel_rfl) rfl #[.int .u8 a0, .slice A1 l1.length c1] rfl (by (try simp only [List.map_toArray, List.map_cons, List.map_nil]); first | done | rfl | (simp only [List.length_drop, List.length_take]; rfl)) ?_; (with_reducible refine (label_Key.calls kj5 a0 _ _ l1 t250 t251 _ ?side1 ?side2 ?side3 A11.out).mono ?_); (case side1 => exact Glob.below HG.out (by repeat (first | (with_reducible first | exact HB.out | apply below_alloc | apply pw_below_drewN | apply below_drew1) | exact HB.out))); (case side2 => repeat (first | exact (Kd.C_below HR1.out HB.out) | (with_reducible refine Kd.C_alloc ?_ _) | (with_reducible refine Kd.C_drewN ?_ _) | (with_reducible refine Kd.C_drew ?_))); (case side3 => exact HC1.out); rintro e w51 ⟨rfl, hb⟩; refine ⟨_, rfl, ?_⟩; have n0_ := Aside0.mk (below_step (by repeat (first | (with_reducible first | exact HB.out | apply below_alloc | apply pw_below_drewN | apply below_drew1) | exact HB.out)) hb); clear HB; have HB := n0_; clear n0_; (try clear hb); (try clear hb2); (try clear hk); (try clear hi)) | ((with_reducible refine gate_dst (N := 40) rfl ?_); (try (refine gate_guard (by rfl) ?_; dsimp only)); refine Kd.R_lit Kd.string _ 9 ?hg (N := 40) ?hd (xs := ([] : List ByteArray)) (inner := []) (ok := fun _ => True) (okp := fun _ => True) ?hr ?hp (fun _ hk => hk) trivial (Below.refl _ _) (Nat.le_refl _) (by simp) ?_; (case hd => rfl); (case hg => rfl); (case hr => first | (go_simp; done) | (go_simp; rfl)); (case hp => exact (Reps.none _ _)); intro v253 w52 ho53 hb hg_ hnew_; clear hg_ hnew_; (first | rw [← Ny252.out] at ho53 | (simp only [Int.reduceToNat] at ho53; rw [← Ny252.out] at ho53)); have n0_ := Aside0.mk (Kd.R_lower ho53 (below_size (by repeat (first | (with_reducible first | exact HB.out | apply below_alloc | apply pw_below_drewN | apply below_drew1) | exact HB.out)))); have n1_ := Aside0.mk (below_step (by repeat (first | (with_reducible first | exact HB.out | apply below_alloc | apply pw_below_drewN | apply below_drew1) | exact HB.out)) hb); clear HB; have HO254 := n0_; have HB := n1_; clear n0_ n1_; clear hb ho53) | ((with_reducible refine gate_builtin (b := .append) (xs := #[.tmp 40, .tmp 41]) rfl ?_); (try (refine gate_guard (by rfl) ?_; dsimp only)); at_builtin; refine Kd.R_append_rows Kd.string (w0 := w) w.heap.size rfl (.tmp 40) (.tmp 41) 31 9 (.string ⟨#[]⟩) 16 rfl Tryd.underlying31 info9 rfl (by decide) (by omega) v253 y252 l1 _ _ _ (fun _ => True) (fun _ => False) rfl rfl ?aO ?aR (fun _ _ h => h) (fun _ h => h.elim) ?aF ?aB ?aS ?aL ?_; (case aR => repeat (first | exact (Kd.C_below HR1.out HB.out) | (with_reducible refine Kd.C_alloc ?_ _) | (with_reducible refine Kd.C_drewN ?_ _) | (with_reducible refine Kd.C_drew ?_))); (case aB => exact (by repeat (first | (with_reducible first | exact HB.out | apply below_alloc | apply pw_below_drewN | apply below_drew1) | exact HB.out))); (case aF => exact (fun _ _ => trivial)); (case aO => exact (by (with_reducible repeat (first | apply Kd.R_alloc | apply Kd.R_drewN | apply Kd.R_drew)); exact HO254.out)); (case aS => exact (below_size (by repeat (first | (with_reducible first | exact HB.out | apply below_alloc | apply pw_below_drewN | apply below_drew1) | exact HB.out)))); (case aL => have := LMc12.out; omega); intro v256 w54 ho hb hg hat; rw [← Ny255.out] at ho; have n0_ := Aside0.mk (hb); have n1_ := Aside0.mk (ho); clear HB; clear HO254; have HB := n0_; have HO257 := n1_; clear n0_ n1_; clear ho hb hg hat) | ((with_reducible refine gate_builtin (b := .append) (xs := #[.tmp 42, .tmp 44]) rfl ?_); (try (refine gate_guard (by rfl) ?_; dsimp only)); at_builtin; refine Kd.R_append Kd.string (w0 := w) w.heap.size rfl (.tmp 42) (.tmp 44) 31 9 (.string ⟨#[]⟩) 16 rfl Tryd.underlying31 info9 rfl (by decide) (by omega) v256 y255 a2 [.string a2] (fun _ => True) (fun _ => False) rfl rfl ?aP (fun _ hk => hk.elim) ?aF ?aO ?aB ?aS ?aL ?_; (case aP => exact rfl); (case aB => exact (by repeat (first | (with_reducible first | exact HB.out | apply below_alloc | apply pw_below_drewN | apply below_drew1) | exact HB.out))); (case aF => exact (fun _ _ => trivial)); (case aO => exact (by (with_reducible repeat (first | apply Kd.R_alloc | apply Kd.R_drewN | apply Kd.R_drew)); exact HO257.out)); (case aS => exact (below_size (by repeat (first | (with_reducible first | exact HB.out | apply below_alloc | apply pw_below_drewN | apply below_drew1) | exact HB.out)))); (case aL => have := LMc13.out; omega); intro v259 w55 ho hb hg hat; rw [← Ny258.out] at ho; have n0_ := Aside0.mk (hb); have n1_ := Aside0.mk (ho); clear HB; clear HO257; have HB := n0_; have HO260 := n1_; clear n0_ n1_; clear ho hb hg hat; obtain ⟨Ao56, co56, eo56⟩ := Kd.R_slice HO260.out; subst eo56) | ((with_reducible refine gate_callee (f := 22) rfl ?_); refine goesL_ (some 46) rfl rfl Tryd.func22 (by kernel_rfl) rfl #[.int .u8 a0, .slice Ao56 y258.length co56] rfl (by (try simp only [List.map_toArray, List.map_cons, List.map_nil]); first | done | rfl | (simp only [List.length_drop, List.length_take]; rfl)) ?_; (with_reducible refine (label_Key.calls kj5 a0 _ _ y258 t261 t262 _ ?side1 ?side2 ?side3 A14.out).mono ?_); (case side1 => exact Glob.below HG.out (by repeat (first | (with_reducible first | exact HB.out | apply below_alloc | apply pw_below_drewN | apply below_drew1) | exact HB.out))); (case side2 => repeat (first | exact (Kd.R_reads' HO260.out).2.2 | (with_reducible refine Kd.C_alloc ?_ _) | (with_reducible refine Kd.C_drewN ?_ _) | (with_reducible refine Kd.C_drew ?_))); (case side3 => exact (Kd.R_reads' HO260.out).2.1); rintro e w57 ⟨rfl, hb⟩; refine ⟨_, rfl, ?_⟩; have n0_ := Aside0.mk (Kd.R_below (by (with_reducible repeat (first | apply Kd.R_alloc | apply Kd.R_drewN | apply Kd.R_drew)); exact HO260.out) hb); have n1_ := Aside0.mk (below_step (by repeat (first | (with_reducible first | exact HB.out | apply below_alloc | apply pw_below_drewN | apply below_drew1) | exact HB.out)) hb); clear HO260; clear HB; have HO260 := n0_; have HB := n1_; clear n0_ n1_; (try clear hb); (try clear hb2); (try clear hk); (try clear hi)) | ((with_reducible refine gate_callee (f := 22) rfl ?_); refine goesL_ (some 52) rfl rfl Tryd.func22 (by kernel_rfl) rfl #[.int .u8 a0, .slice A3 l3.length c3] rfl (by (try simp only [List.map_toArray, List.map_cons, List.map_nil]); first | done | rfl | (simp only [List.length_drop, List.length_take]; rfl)) ?_; (with_reducible refine (label_Key.calls kj5 a0 _ _ l3 t263 t264 _ ?side1 ?side2 ?side3 A15.out).mono ?_); (case side1 => exact Glob.below HG.out (by repeat (first | (with_reducible first | exact HB.out | apply below_alloc | apply pw_below_drewN | apply below_drew1) | exact HB.out))); (case side2 => repeat (first | exact (Kd.C_below HR3.out HB.out) | (with_reducible refine Kd.C_alloc ?_ _) | (with_reducible refine Kd.C_drewN ?_ _) | (with_reducible refine Kd.C_drew ?_))); (case side3 => exact HC3.out); rintro e w58 ⟨rfl, hb⟩; refine ⟨_, rfl, ?_⟩; have n0_ := Aside0.mk (Kd.R_below (by (with_reducible repeat (first | apply Kd.R_alloc | apply Kd.R_drewN | apply Kd.R_drew)); exact HO260.out) hb); have n1_ := Aside0.mk (below_step (by repeat (first | (with_reducible first | exact HB.out | apply below_alloc | apply pw_below_drewN | apply below_drew1) | exact HB.out)) hb); clear HO260; clear HB; have HO260 := n0_; have HB := n1_; clear n0_ n1_; (try clear hb); (try clear hb2); (try clear hk); (try clear hi)))
              go_ret
              exact ⟨by first | rfl | (simp [errW_none, errW_some] <;> rfl) | (simp [*, errW_none, errW_some] <;> rfl), by repeat (first | (with_reducible first | exact HB.out | apply below_alloc | apply pw_below_drewN | apply below_drew1) | exact HB.out)⟩
          · rw [if_neg c13] at H
            exact absurd H (by simp)
        · rw [if_neg c12] at H
          exact absurd H (by simp)

end Go.Proofs.YtalepbkdakjhdaaDoor.P
