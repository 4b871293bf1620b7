-- Laid by wip/tools/cprint.py of this claim's own repo (over the kit's print).
import Derived.Test.YtalepbkdakjhdaaDoorPx0
import Derived.Test.YtalepbkdakjhdaaDoorPx1
import Derived.Test.YtalepbkdakjhdaaDoorDigits
import Derived.Test.YtalepbkdakjhdaaDoorLib
import Derived.Test.YtalepbkdakjhdaaDoorNumber
namespace Go.Proofs.YtalepbkdakjhdaaDoor.P
open Go.RowKit Go.Proofs.YtalepbkdakjhdaaDoor.E Go.Proofs.YtalepbkdakjhdaaDoorW.PrintWords Go.Proofs.YtalepbkdakjhdaaDoorW.PrintLast Go.Proofs.YtalepbkdakjhdaaDoorW.PrintMore
attribute [local go_sem] max2_int min2_int max_two min_two max_three min_three max_four min_four   -- for this text's walks alone
set_option linter.unusedVariables false
set_option linter.unusedSimpArgs false

/-! ### label_Split: function 24 -/
def label_Split.f (k : Nat) (a0 : ByteArray) : Option (Int × List ByteArray × Int) := (strings_Split.f a0 (⟨#[124]⟩ : ByteArray)).bind fun t126 => (if 0 < (t126.length : Int) then (if ((rdOf ByteArray.empty t126 0).size : Int) = 1 then (if 0 < (a0.size : Int) then (if 1 ≤ (t126.length : Int) then ((label_Key.f k (bt a0 0) (t126.drop 1)).bind fun bt134 => (if bt134.2 = 0 then (some (bt a0 0, (t126.drop (1 : Int).toNat), 0)) else (some (0, ([] : List ByteArray), bt134.2)))) else (none)) else (none)) else (some (0, ([] : List ByteArray), 20))) else (none))
theorem label_Split.mono : ∀ a0 k, LeO (label_Split.f k a0) (label_Split.f (k + 1) a0) := by
  intro a0 k
  unfold label_Split.f
  repeat' first
      | (with_reducible exact label_Key.mono _ _ _)
      | (with_reducible exact LeO.refl _)
      | (with_reducible exact LeO.none _)
      | (with_reducible refine LeO.ite ?_ ?_)
      | (with_reducible refine LeO.bind ?_ (fun _ => ?_))
      | exact label_Key.mono _ _ _
      | exact LeO.none _
      | refine LeO.ite ?_ ?_
      | refine LeO.bind ?_ (fun _ => ?_)
def label_Split.T4 : Bool × List (List Nat × List Nat) := (true, [([], []), ([0], [0]), ([], []), ([2], [2]), ([1, 3], [1, 3]), ([4], [4]), ([5], [5]), ([5], [5]), ([6, 4, 0, 1, 2, 3, 4, 5, 6], [6]), ([7, 8, 0, 1, 2, 3, 4, 5, 6, 7, 8], [7])])
def label_Split.B4 : List Nat := [0, 1, 0, 4, 15, 31, 63, 63, 127, 511]
theorem label_Split.tab4 : rtab .any (opsOf Tryd.f24 4) = label_Split.T4 := by kernel_rfl
theorem label_Split.bits4 : waitsOk label_Split.T4.2 label_Split.B4 = true := by kernel_rfl
set_option maxHeartbeats 8000000 in
set_option maxRecDepth 100000 in
theorem label_Split.calls (k : Nat) (a0 : ByteArray) (r1 : Int) (r2 : List ByteArray) (r3 : Int) (w : World) (hG : Glob w) (h : label_Split.f k a0 = some (r1, r2, r3)) :
    Calls Tryd.prog 24 #[.string a0] w fun e w' => ∃ v1_ : Value, e = .returned (.tuple #[.int .u8 r1, v1_, .int .i64 r3]) ∧ Kd.Q Kd.string 9 w' w.heap.size (fun _ => True) v1_ r2 ∧ Below w.heap.size w w' := by
  have HG := Aside0.mk hG
  clear hG
  have HB := Aside0.mk (Below.refl w.heap.size w)
  have H : ((strings_Split.f a0 (⟨#[124]⟩ : ByteArray)).bind fun t126 => (if 0 < (t126.length : Int) then (if ((rdOf ByteArray.empty t126 0).size : Int) = 1 then (if 0 < (a0.size : Int) then (if 1 ≤ (t126.length : Int) then ((label_Key.f k (bt a0 0) (t126.drop 1)).bind fun bt134 => (if bt134.2 = 0 then (some (bt a0 0, (t126.drop (1 : Int).toNat), 0)) else (some (0, ([] : List ByteArray), bt134.2)))) else (none)) else (none)) else (some (0, ([] : List ByteArray), 20))) else (none))) = some (r1, r2, r3) := h
  clear h
  replace H := Option.bind_eq_some_iff.mp H
  obtain ⟨t126, A20, H⟩ := H
  replace H : (if 0 < (t126.length : Int) then (if ((rdOf ByteArray.empty t126 0).size : Int) = 1 then (if 0 < (a0.size : Int) then (if 1 ≤ (t126.length : Int) then ((label_Key.f k (bt a0 0) (t126.drop 1)).bind fun bt134 => (if bt134.2 = 0 then (some (bt a0 0, (t126.drop (1 : Int).toNat), 0)) else (some (0, ([] : List ByteArray), bt134.2)))) else (none)) else (none)) else (some (0, ([] : List ByteArray), 20))) else (none)) = some (r1, r2, r3) := H
  have A2 := Aside0.mk A20
  clear A20
  by_cases c3 : 0 < (t126.length : Int)
  · rw [if_pos c3] at H
    have c3b0 : decide (0 < (t126.length : Int)) = true := decide_eq_true c3
    have c3b1 : decide (0 < t126.length) = true := decide_eq_true (by omega)
    clear c3
    by_cases c4 : ((rdOf ByteArray.empty t126 0).size : Int) = 1
    · rw [if_pos c4] at H
      have c4b0 : (((rdOf ByteArray.empty t126 0).size : Int) == 1) = true := beq_iff_eq.mpr c4
      have c4b1 : (((rdOf ByteArray.empty t126 0).size : Int) != 1) = false := bne_eq_false_iff_eq.mpr c4
      clear c4
      by_cases c5 : 0 < (a0.size : Int)
      · rw [if_pos c5] at H
        have c5b0 : decide (0 < (a0.size : Int)) = true := decide_eq_true c5
        have c5b1 : decide (0 < a0.size) = true := decide_eq_true (by omega)
        clear c5
        by_cases c7 : 1 ≤ (t126.length : Int)
        · rw [if_pos c7] at H
          have c7b0 := eq_true c7
          have c7b1 : decide (1 ≤ (t126.length : Int)) = true := decide_eq_true c7
          clear c7
          obtain ⟨y130, hy130⟩ : ∃ y_ : List ByteArray, y_ = (t126.drop 1) := ⟨_, rfl⟩
          replace H : ((label_Key.f k (bt a0 0) y130).bind fun bt134 => (if bt134.2 = 0 then (some (bt a0 0, (t126.drop (1 : Int).toNat), 0)) else (some (0, ([] : List ByteArray), bt134.2)))) = some (r1, r2, r3) := by first | (rw [hy130]; with_reducible exact H) | (have H2_ := (Option.bind_some _ _).symm.trans H; rw [hy130]; with_reducible exact H2_) | (have H2_ := (Option.bind_some _ _).symm.trans H; with_reducible exact H2_) | with_reducible exact H | (rw [hy130]; exact H) | exact H
          have Ny130 := Aside0.mk hy130
          clear hy130
          replace H := Option.bind_eq_some_iff.mp H
          obtain ⟨⟨t134, t135⟩, A80, H⟩ := H
          replace H : (if t135 = 0 then (some (bt a0 0, (t126.drop (1 : Int).toNat), 0)) else (some (0, ([] : List ByteArray), t135))) = some (r1, r2, r3) := H
          have A8 := Aside0.mk A80
          clear A80
          by_cases c9 : t135 = 0
          · rw [if_pos c9] at H
            have c9b0 : (t135 == 0) = true := beq_iff_eq.mpr c9
            have c9b1 : (t135 != 0) = false := bne_eq_false_iff_eq.mpr c9
            clear c9
            have c11b0 := eq_true (of_decide_eq_true (by first | (with_reducible assumption) | assumption) : 1 ≤ (t126.length : Int))
            obtain ⟨y136, hy136⟩ : ∃ y_ : List ByteArray, y_ = (t126.drop (1 : Int).toNat) := ⟨_, rfl⟩
            replace H : (some (bt a0 0, y136, 0)) = some (r1, r2, r3) := by first | (rw [hy136]; with_reducible exact H) | (have H2_ := (Option.bind_some _ _).symm.trans H; rw [hy136]; with_reducible exact H2_) | (have H2_ := (Option.bind_some _ _).symm.trans H; with_reducible exact H2_) | with_reducible exact H | (rw [hy136]; exact H) | exact H
            have Ny136 := Aside0.mk hy136
            clear hy136
            simp only [Option.some.injEq, Prod.mk.injEq] at H
            obtain ⟨rfl, rfl, rfl⟩ := H
            go_enter Tryd.func24, Tryd.ntmps24
            try go_wp2_with (first | ((with_reducible refine gate_callee (f := 32) rfl ?_); refine goesL_ (some 9) rfl rfl Tryd.func32 (by kernel_rfl) rfl #[.string a0, .string (⟨#[124]⟩ : ByteArray)] rfl (by (try simp only [List.map_toArray, List.map_cons, List.map_nil]); first | done | rfl | (simp only [List.length_drop, List.length_take]; rfl)) ?_; (with_reducible refine (strings_Split.calls a0 (⟨#[124]⟩ : ByteArray) t126 _ ?side1 A2.out).mono ?_); (case side1 => exact Glob.below HG.out (by repeat (first | (with_reducible first | exact HB.out | apply below_alloc | apply pw_below_drewN | apply below_drew1) | exact HB.out))); rintro e w12 ⟨v127, rfl, ho0, hb⟩; refine ⟨_, rfl, ?_⟩; have n0_ := Aside0.mk (Kd.R_lower ho0 (below_size (by repeat (first | (with_reducible first | exact HB.out | apply below_alloc | apply pw_below_drewN | apply below_drew1) | exact HB.out)))); have n1_ := Aside0.mk (below_step (by repeat (first | (with_reducible first | exact HB.out | apply below_alloc | apply pw_below_drewN | apply below_drew1) | exact HB.out)) hb); clear HB; have HO128 := n0_; have HB := n1_; clear n0_ n1_; (try clear hb); (try clear hb2); (try clear hk); (try clear hi); (try clear ho0); obtain ⟨Ao13, co13, eo13⟩ := Kd.R_slice HO128.out; subst eo13; have p129 : 0 ≤ (0 : Int) := (by omega); have q129 : 0 < (t126.length : Int) := of_decide_eq_true (by first | (with_reducible assumption) | assumption); obtain ⟨ad129, e129, hx129_0⟩ := Kd.at_string (Kd.R_reads' HO128.out).2.2 0 p129 q129; cases e129; have qi129 : (0 < t126.length) = True := eq_true (by omega); (try rw [show ((0 : Int)).toNat = 0 from rfl] at hx129_0); (try rw [Addr.add_zero'] at hx129_0); replace p129 := eq_true p129; replace q129 := eq_true q129))
            have n0_ := Aside0.mk (Kd.R_drew HO128.out)
            have n1_ := Aside0.mk (below_drew1 HB.out)
            clear HO128
            clear HB
            have HO128 := n0_
            have HB := n1_
            clear n0_ n1_
            have p6 : 0 ≤ (0 : Int) := (by omega)
            have q6 : 0 < a0.size := (by have : (0 : Int) < (a0.size : Int) := of_decide_eq_true (by first | (with_reducible assumption) | assumption); omega)
            have hx6 : ∀ h : 0 < a0.size, ((a0[0]'h).toNat : Int) = bt a0 0 := bt_at a0 0
            clear p6
            have qi6 : (0 < (a0.size : Int)) = True := eq_true (of_decide_eq_true (by first | (with_reducible assumption) | assumption))
            replace q6 := eq_true q6
            have q15 : (1 : Int) ≤ ((t126.length : Int) : Int) := of_decide_eq_true (by first | (with_reducible assumption) | assumption)
            obtain ⟨i015, hi015, _, hsz15, _⟩ := info_parts info9
            have hroom15 : t126.length ≤ co13 := (Kd.R_reads' HO128.out).2.1
            have hC15 : Kd.C Kd.string _ (some ad129) t126.length t126 := (Kd.R_reads' HO128.out).2.2
            have hcut15 := cut_from (P := Tryd.prog) 31 9 .i64 Tryd.underlying31 hi015 1 hsz15 (some ad129) t126.length co13 1 (by omega) q15
            have hr15 := Kd.C_drop (m := (1 : Int).toNat) (c := co13) hC15 (by omega) hroom15
            obtain ⟨A15, hA15⟩ : ∃ A1, A1 = (if co13 = (1 : Int).toNat then (some ad129) else ((some ad129) : Option Addr).map (·.add ((1 : Int).toNat * 1))) := ⟨_, rfl⟩
            obtain ⟨c15, hc15⟩ : ∃ c1, c1 = co13 - (1 : Int).toNat := ⟨_, rfl⟩
            have hy15 : y130.length = t126.length - (1 : Int).toNat := (by rw [Ny130.out, List.length_drop] <;> omega)
            rw [show (t126).drop (1 : Int).toNat = y130 from Ny130.out.symm] at hr15
            replace hr15 : Kd.C Kd.string _ A15 y130.length y130 := (by rw [hA15]; exact hr15)
            rw [← hy15, ← hA15, ← hc15] at hcut15
            have HR133 := Aside0.mk hr15
            have HC133 := Aside0.mk (show y130.length ≤ c15 from by rw [hy15, hc15]; exact Nat.sub_le_sub_right hroom15 _)
            clear hr15 hC15 hroom15 hi015 hsz15 hc15
            have KY15 := Aside0.mk hy15
            have KA15 := Aside0.mk hA15
            clear hy15 hA15
            have KL15 := Aside0.mk (show 1 ≤ t126.length from by omega)
            replace q15 := eq_true q15
            refine start_ (n := 10) (S := fun w' => True) (ds := []) #[false, false, false, false, false, false, false, false, false, false] (by kernel_rfl) rfl rfl trivial (fun hHeld => ?_); refine with_tabW label_Split.tab4 label_Split.bits4 (fun HT_ HW_ => ?_)
            generalize w12.drew = w14 at HO128 HB HR133 hHeld ⊢
            refine pure_ (i := 0) (N := some 16) (v := ?_) (a' := ?_) #[true, false, false, false, false, false, false, false, false, false] rfl rfl (any_of HT_.out (by kernel_rfl)) (fun _ _ _ h => h) (Or.inl ⟨by rfl, ?_⟩) ?_ ?_
            rotate_left
            · intro w'
              go_simp
              with_reducible rfl
            rotate_left
            · simp only [Act.put, List.setIfInBounds_toArray, List.set_cons_zero, List.set_cons_succ, i64_w, i32_w]
              rfl
            refine pure_ (i := 2) (N := some 18) (v := ?_) (a' := ?_) #[true, false, true, false, false, false, false, false, false, false] rfl rfl (any_of HT_.out (by kernel_rfl)) (fun _ _ _ h => h) (Or.inl ⟨by rfl, ?_⟩) ?_ ?_
            rotate_left
            · intro w'
              go_simp
              with_reducible rfl
            rotate_left
            · simp only [Act.put, List.setIfInBounds_toArray, List.set_cons_zero, List.set_cons_succ, i64_w, i32_w]
              rfl
            refine pure_ (i := 3) (N := some 19) (v := ?_) (a' := ?_) #[true, false, true, true, false, false, false, false, false, false] rfl rfl (any_of HT_.out (by kernel_rfl)) (fun _ _ _ h => h) (Or.inl ⟨by rfl, ?_⟩) ?_ ?_
            rotate_left
            · intro w'
              go_simp
              with_reducible rfl
            rotate_left
            · simp only [Act.put, List.setIfInBounds_toArray, List.set_cons_zero, List.set_cons_succ, i64_w, i32_w]
              rfl
            refine take_ (i := 1) (N := some 17) (v := ?_) (a' := ?_) #[true, true, true, true, false, false, false, false, false, false] rfl rfl (take_ofW HT_.out HW_.out (by kernel_rfl)) (fun _ _ _ h => h) (Or.inl ⟨by rfl, ?_⟩) hHeld ?_ ?_
            rotate_left
            · intro w' _
              go_simp
              with_reducible rfl
            rotate_left
            · simp only [Act.put, List.setIfInBounds_toArray, List.set_cons_zero, List.set_cons_succ, i64_w, i32_w]
              rfl
            refine one_ (i := 4) (N := some 20) #[true, true, true, true, true, false, false, false, false, false] rfl rfl (one_of HT_.out (by kernel_rfl)) (by decide) (fun K hK => ?_)
            refine goes_ Tryd.func22 (by kernel_rfl) rfl #[.int .u8 (bt a0 0), .slice A15 y130.length c15] (by rfl) rfl rfl (by (try simp only [List.map_toArray, List.map_cons, List.map_nil]); first | done | rfl | (simp only [List.length_drop, List.length_take]; rfl)) ?_
            with_reducible refine (label_Key.calls k (bt a0 0) _ _ y130 t134 t135 _ ?side1 ?side2 ?side3 A8.out).mono ?_
            (case side1 => exact Glob.below HG.out (by repeat (first | (with_reducible first | exact HB.out | apply below_alloc | apply pw_below_drewN | apply below_drew1) | exact HB.out)))
            (case side2 => repeat (first | exact (by repeat (first | (with_reducible exact HR133.out) | (with_reducible refine Kd.C_alloc ?_ _) | (with_reducible refine Kd.C_drewN ?_ _) | (with_reducible refine Kd.C_drew ?_) | exact HR133.out)) | (with_reducible refine Kd.C_alloc ?_ _) | (with_reducible refine Kd.C_drewN ?_ _) | (with_reducible refine Kd.C_drew ?_)))
            (case side3 => exact HC133.out)
            rintro e w16 ⟨rfl, hb⟩
            refine ⟨_, rfl, ?_⟩
            have n0_ := Aside0.mk (Kd.R_below (by (with_reducible repeat (first | apply Kd.R_alloc | apply Kd.R_drewN | apply Kd.R_drew)); exact HO128.out) hb)
            have n1_ := Aside0.mk (Kd.C_below (by repeat (first | (with_reducible exact HR133.out) | (with_reducible refine Kd.C_alloc ?_ _) | (with_reducible refine Kd.C_drewN ?_ _) | (with_reducible refine Kd.C_drew ?_) | exact HR133.out)) hb)
            have n2_ := Aside0.mk (below_step (by repeat (first | (with_reducible first | exact HB.out | apply below_alloc | apply pw_below_drewN | apply below_drew1) | exact HB.out)) hb)
            clear HO128
            clear HR133
            clear HB
            have HO128 := n0_
            have HR133 := n1_
            have HB := n2_
            clear n0_ n1_ n2_
            (try clear hb)
            (try clear hb2)
            (try clear hk)
            (try clear hi)
            refine hK.out _ _ trivial (fun hHeld => ?_)
            clear hK K
            refine norm_ (a' := ?_) ?_ ?_
            rotate_left
            · show Act.put _ (some 20) _ = _
              simp only [Act.put, List.setIfInBounds_toArray, List.set_cons_zero, List.set_cons_succ, i64_w, i32_w]
              rfl
            refine pure_ (i := 5) (N := some 15) (v := ?_) (a' := ?_) #[true, true, true, true, true, true, false, false, false, false] rfl rfl (any_of HT_.out (by kernel_rfl)) (fun _ _ _ h => h) (Or.inl ⟨by rfl, ?_⟩) ?_ ?_
            rotate_left
            · intro w'
              go_simp
              with_reducible rfl
            rotate_left
            · simp only [Act.put, List.setIfInBounds_toArray, List.set_cons_zero, List.set_cons_succ, i64_w, i32_w]
              rfl
            refine pure_ (i := 6) (N := some 21) (v := ?_) (a' := ?_) #[true, true, true, true, true, true, true, false, false, false] rfl rfl (any_of HT_.out (by kernel_rfl)) (fun _ _ _ h => h) (Or.inl ⟨by rfl, ?_⟩) ?_ ?_
            rotate_left
            · intro w'
              go_simp
              with_reducible rfl
            rotate_left
            · simp only [Act.put, List.setIfInBounds_toArray, List.set_cons_zero, List.set_cons_succ, i64_w, i32_w]
              rfl
            refine pure_ (i := 7) (N := some 22) (v := ?_) (a' := ?_) #[true, true, true, true, true, true, true, true, false, false] rfl rfl (any_of HT_.out (by kernel_rfl)) (fun _ _ _ h => h) (Or.inl ⟨by rfl, ?_⟩) ?_ ?_
            rotate_left
            · intro w'
              go_simp
              with_reducible rfl
            rotate_left
            · simp only [Act.put, List.setIfInBounds_toArray, List.set_cons_zero, List.set_cons_succ, i64_w, i32_w]
              rfl
            refine pure_ (i := 8) (N := some 6) (v := ?_) (a' := ?_) #[true, true, true, true, true, true, true, true, true, false] rfl rfl (any_of HT_.out (by kernel_rfl)) (fun _ _ _ h => h) (Or.inl ⟨by rfl, ?_⟩) ?_ ?_
            rotate_left
            · intro w'
              go_simp
              with_reducible rfl
            rotate_left
            · simp only [Act.put, List.setIfInBounds_toArray, List.set_cons_zero, List.set_cons_succ, i64_w, i32_w]
              rfl
            refine pure_ (i := 9) (N := some 7) (v := ?_) (a' := ?_) #[true, true, true, true, true, true, true, true, true, true] rfl rfl (any_of HT_.out (by kernel_rfl)) (fun _ _ _ h => h) (Or.inl ⟨by rfl, ?_⟩) ?_ ?_
            rotate_left
            · intro w'
              go_simp
              with_reducible rfl
            rotate_left
            · simp only [Act.put, List.setIfInBounds_toArray, List.set_cons_zero, List.set_cons_succ, i64_w, i32_w]
              rfl
            refine done_ (done_of HT_.out (by kernel_rfl)) ?_
            try go_wp2
            have n0_ := Aside0.mk (Kd.R_drew HO128.out)
            have n1_ := Aside0.mk (Kd.C_drew HR133.out)
            have n2_ := Aside0.mk (below_drew1 HB.out)
            clear HO128
            clear HR133
            clear HB
            have HO128 := n0_
            have HR133 := n1_
            have HB := n2_
            clear n0_ n1_ n2_
            have p10 : 0 ≤ (0 : Int) := (by omega)
            have q10 : 0 < a0.size := (by have : (0 : Int) < (a0.size : Int) := of_decide_eq_true (by first | (with_reducible assumption) | assumption); omega)
            have hx10 : ∀ h : 0 < a0.size, ((a0[0]'h).toNat : Int) = bt a0 0 := bt_at a0 0
            clear p10
            have qi10 : (0 < (a0.size : Int)) = True := eq_true (of_decide_eq_true (by first | (with_reducible assumption) | assumption))
            replace q10 := eq_true q10
            try clear hcut4
            try clear hcut5
            try clear hcut6
            try clear hcut7
            try clear hcut8
            try clear hcut9
            try clear hcut10
            try clear hcut11
            try clear hcut12
            try clear hcut13
            try clear hcut14
            try clear hcut15
            try clear hcut16
            try clear hcut17
            have q18 : (1 : Int) ≤ ((t126.length : Int) : Int) := of_decide_eq_true (by first | (with_reducible assumption) | assumption)
            obtain ⟨i018, hi018, _, hsz18, _⟩ := info_parts info9
            have hcut18 := cut_from (P := Tryd.prog) 31 9 .i64 Tryd.underlying31 hi018 1 hsz18 (some ad129) t126.length co13 1 (by omega) q18
            have hr18 := Kd.Q_drop (k := (1 : Int).toNat) (Kd.Q_of_R HO128.out) (by omega)
            obtain ⟨A18, hA18⟩ : ∃ A1, A1 = (if co13 = (1 : Int).toNat then (some ad129) else ((some ad129) : Option Addr).map (·.add ((1 : Int).toNat * 1))) := ⟨_, rfl⟩
            obtain ⟨c18, hc18⟩ : ∃ c1, c1 = co13 - (1 : Int).toNat := ⟨_, rfl⟩
            have hy18 : y136.length = t126.length - (1 : Int).toNat := (by rw [Ny136.out, List.length_drop])
            rw [← Ny136.out] at hr18
            rw [← hy18, ← hA18, ← hc18] at hcut18
            replace hr18 : Kd.Q Kd.string 9 _ w.heap.size (fun _ => True) (.slice A18 y136.length c18) y136 := (by rw [hA18, hc18, hy18]; exact hr18)
            have HE18 : Aside0 ((Value.slice A18 y136.length c18).ownBlock = (.slice (some ad129) t126.length co13 : Value).ownBlock) := ⟨by rw [hA18]; split <;> (cases ((some ad129) : Option Addr) <;> rfl)⟩
            clear hy18 hi018 hsz18 hA18 hc18
            have HO138 := Aside0.mk hr18
            clear hr18
            replace q18 := eq_true q18
            refine start_ (n := 7) (S := fun w' => True) (ds := []) #[false, false, false, false, false, false, false] (by kernel_rfl) rfl rfl trivial (fun hHeld => ?_)
            generalize w16.drew = w17 at HO128 HR133 HB HO138 hHeld ⊢
            refine pure_ (i := 0) (N := some 26) (v := ?_) (a' := ?_) #[true, false, false, false, false, false, false] rfl rfl (by kernel_rfl) (fun _ _ _ h => h) (Or.inl ⟨by rfl, ?_⟩) ?_ ?_
            rotate_left
            · intro w'
              go_simp
              with_reducible rfl
            rotate_left
            · simp only [Act.put, List.setIfInBounds_toArray, List.set_cons_zero, List.set_cons_succ, i64_w, i32_w]
              rfl
            refine pure_ (i := 2) (N := some 28) (v := ?_) (a' := ?_) #[true, false, true, false, false, false, false] rfl rfl (by kernel_rfl) (fun _ _ _ h => h) (Or.inl ⟨by rfl, ?_⟩) ?_ ?_
            rotate_left
            · intro w'
              go_simp
              with_reducible rfl
            rotate_left
            · simp only [Act.put, List.setIfInBounds_toArray, List.set_cons_zero, List.set_cons_succ, i64_w, i32_w]
              rfl
            refine pure_ (i := 3) (N := some 29) (v := ?_) (a' := ?_) #[true, false, true, true, false, false, false] rfl rfl (by kernel_rfl) (fun _ _ _ h => h) (Or.inl ⟨by rfl, ?_⟩) ?_ ?_
            rotate_left
            · intro w'
              go_simp
              with_reducible rfl
            rotate_left
            · simp only [Act.put, List.setIfInBounds_toArray, List.set_cons_zero, List.set_cons_succ, i64_w, i32_w]
              rfl
            refine take_ (i := 1) (N := some 27) (v := ?_) (a' := ?_) #[true, true, true, true, false, false, false] rfl rfl (by kernel_rfl) (fun _ _ _ h => h) (Or.inl ⟨by rfl, ?_⟩) hHeld ?_ ?_
            rotate_left
            · intro w' _
              go_simp
              with_reducible rfl
            rotate_left
            · simp only [Act.put, List.setIfInBounds_toArray, List.set_cons_zero, List.set_cons_succ, i64_w, i32_w]
              rfl
            refine pure_ (i := 4) (N := some 2) (v := ?_) (a' := ?_) #[true, true, true, true, true, false, false] rfl rfl (by kernel_rfl) (fun _ _ _ h => h) (Or.inl ⟨by rfl, ?_⟩) ?_ ?_
            rotate_left
            · intro w'
              go_simp
              with_reducible rfl
            rotate_left
            · simp only [Act.put, List.setIfInBounds_toArray, List.set_cons_zero, List.set_cons_succ, i64_w, i32_w]
              rfl
            refine pure_ (i := 5) (N := some 3) (v := ?_) (a' := ?_) #[true, true, true, true, true, true, false] rfl rfl (by kernel_rfl) (fun _ _ _ h => h) (Or.inl ⟨by rfl, ?_⟩) ?_ ?_
            rotate_left
            · intro w'
              go_simp
              with_reducible rfl
            rotate_left
            · simp only [Act.put, List.setIfInBounds_toArray, List.set_cons_zero, List.set_cons_succ, i64_w, i32_w]
              rfl
            refine pure_ (i := 6) (N := some 4) (v := ?_) (a' := ?_) #[true, true, true, true, true, true, true] rfl rfl (by kernel_rfl) (fun _ _ _ h => h) (Or.inl ⟨by rfl, ?_⟩) ?_ ?_
            rotate_left
            · intro w'
              go_simp
              with_reducible rfl
            rotate_left
            · simp only [Act.put, List.setIfInBounds_toArray, List.set_cons_zero, List.set_cons_succ, i64_w, i32_w]
              rfl
            refine done_ (by kernel_rfl) ?_
            try go_wp2
            go_ret3
            exact ⟨_, by first | rfl | (simp [errW_none, errW_some] <;> rfl) | (simp [*, errW_none, errW_some] <;> rfl), by (with_reducible repeat (first | apply Kd.Q_alloc | apply Kd.Q_drewN | apply Kd.Q_drew)); exact HO138.out, by repeat (first | (with_reducible first | exact HB.out | apply below_alloc | apply pw_below_drewN | apply below_drew1) | exact HB.out)⟩
          · rw [if_neg c9] at H
            have c9b0 : (t135 == 0) = false := beq_eq_false_iff_ne.mpr c9
            have c9b1 : (t135 != 0) = true := bne_iff_ne.mpr c9
            simp only [Option.some.injEq, Prod.mk.injEq] at H
            obtain ⟨rfl, rfl, rfl⟩ := H
            go_enter Tryd.func24, Tryd.ntmps24
            try go_wp2_with (first | ((with_reducible refine gate_callee (f := 32) rfl ?_); refine goesL_ (some 9) rfl rfl Tryd.func32 (by kernel_rfl) rfl #[.string a0, .string (⟨#[124]⟩ : ByteArray)] rfl (by (try simp only [List.map_toArray, List.map_cons, List.map_nil]); first | done | rfl | (simp only [List.length_drop, List.length_take]; rfl)) ?_; (with_reducible refine (strings_Split.calls a0 (⟨#[124]⟩ : ByteArray) t126 _ ?side1 A2.out).mono ?_); (case side1 => exact Glob.below HG.out (by repeat (first | (with_reducible first | exact HB.out | apply below_alloc | apply pw_below_drewN | apply below_drew1) | exact HB.out))); rintro e w19 ⟨v127, rfl, ho0, hb⟩; refine ⟨_, rfl, ?_⟩; have n0_ := Aside0.mk (Kd.R_lower ho0 (below_size (by repeat (first | (with_reducible first | exact HB.out | apply below_alloc | apply pw_below_drewN | apply below_drew1) | exact HB.out)))); have n1_ := Aside0.mk (below_step (by repeat (first | (with_reducible first | exact HB.out | apply below_alloc | apply pw_below_drewN | apply below_drew1) | exact HB.out)) hb); clear HB; have HO128 := n0_; have HB := n1_; clear n0_ n1_; (try clear hb); (try clear hb2); (try clear hk); (try clear hi); (try clear ho0); obtain ⟨Ao20, co20, eo20⟩ := Kd.R_slice HO128.out; subst eo20; have p129 : 0 ≤ (0 : Int) := (by omega); have q129 : 0 < (t126.length : Int) := of_decide_eq_true (by first | (with_reducible assumption) | assumption); obtain ⟨ad129, e129, hx129_0⟩ := Kd.at_string (Kd.R_reads' HO128.out).2.2 0 p129 q129; cases e129; have qi129 : (0 < t126.length) = True := eq_true (by omega); (try rw [show ((0 : Int)).toNat = 0 from rfl] at hx129_0); (try rw [Addr.add_zero'] at hx129_0); replace p129 := eq_true p129; replace q129 := eq_true q129))
            have n0_ := Aside0.mk (Kd.R_drew HO128.out)
            have n1_ := Aside0.mk (below_drew1 HB.out)
            clear HO128
            clear HB
            have HO128 := n0_
            have HB := n1_
            clear n0_ n1_
            have p6 : 0 ≤ (0 : Int) := (by omega)
            have q6 : 0 < a0.size := (by have : (0 : Int) < (a0.size : Int) := of_decide_eq_true (by first | (with_reducible assumption) | assumption); omega)
            have hx6 : ∀ h : 0 < a0.size, ((a0[0]'h).toNat : Int) = bt a0 0 := bt_at a0 0
            clear p6
            have qi6 : (0 < (a0.size : Int)) = True := eq_true (of_decide_eq_true (by first | (with_reducible assumption) | assumption))
            replace q6 := eq_true q6
            have q22 : (1 : Int) ≤ ((t126.length : Int) : Int) := of_decide_eq_true (by first | (with_reducible assumption) | assumption)
            obtain ⟨i022, hi022, _, hsz22, _⟩ := info_parts info9
            have hroom22 : t126.length ≤ co20 := (Kd.R_reads' HO128.out).2.1
            have hC22 : Kd.C Kd.string _ (some ad129) t126.length t126 := (Kd.R_reads' HO128.out).2.2
            have hcut22 := cut_from (P := Tryd.prog) 31 9 .i64 Tryd.underlying31 hi022 1 hsz22 (some ad129) t126.length co20 1 (by omega) q22
            have hr22 := Kd.C_drop (m := (1 : Int).toNat) (c := co20) hC22 (by omega) hroom22
            obtain ⟨A22, hA22⟩ : ∃ A1, A1 = (if co20 = (1 : Int).toNat then (some ad129) else ((some ad129) : Option Addr).map (·.add ((1 : Int).toNat * 1))) := ⟨_, rfl⟩
            obtain ⟨c22, hc22⟩ : ∃ c1, c1 = co20 - (1 : Int).toNat := ⟨_, rfl⟩
            have hy22 : y130.length = t126.length - (1 : Int).toNat := (by rw [Ny130.out, List.length_drop] <;> omega)
            rw [show (t126).drop (1 : Int).toNat = y130 from Ny130.out.symm] at hr22
            replace hr22 : Kd.C Kd.string _ A22 y130.length y130 := (by rw [hA22]; exact hr22)
            rw [← hy22, ← hA22, ← hc22] at hcut22
            have HR133 := Aside0.mk hr22
            have HC133 := Aside0.mk (show y130.length ≤ c22 from by rw [hy22, hc22]; exact Nat.sub_le_sub_right hroom22 _)
            clear hr22 hC22 hroom22 hi022 hsz22 hc22
            have KY22 := Aside0.mk hy22
            have KA22 := Aside0.mk hA22
            clear hy22 hA22
            have KL22 := Aside0.mk (show 1 ≤ t126.length from by omega)
            replace q22 := eq_true q22
            refine start_ (n := 10) (S := fun w' => True) (ds := []) #[false, false, false, false, false, false, false, false, false, false] (by kernel_rfl) rfl rfl trivial (fun hHeld => ?_); refine with_tabW label_Split.tab4 label_Split.bits4 (fun HT_ HW_ => ?_)
            generalize w19.drew = w21 at HO128 HB HR133 hHeld ⊢
            refine pure_ (i := 0) (N := some 16) (v := ?_) (a' := ?_) #[true, false, false, false, false, false, false, false, false, false] rfl rfl (any_of HT_.out (by kernel_rfl)) (fun _ _ _ h => h) (Or.inl ⟨by rfl, ?_⟩) ?_ ?_
            rotate_left
            · intro w'
              go_simp
              with_reducible rfl
            rotate_left
            · simp only [Act.put, List.setIfInBounds_toArray, List.set_cons_zero, List.set_cons_succ, i64_w, i32_w]
              rfl
            refine pure_ (i := 2) (N := some 18) (v := ?_) (a' := ?_) #[true, false, true, false, false, false, false, false, false, false] rfl rfl (any_of HT_.out (by kernel_rfl)) (fun _ _ _ h => h) (Or.inl ⟨by rfl, ?_⟩) ?_ ?_
            rotate_left
            · intro w'
              go_simp
              with_reducible rfl
            rotate_left
            · simp only [Act.put, List.setIfInBounds_toArray, List.set_cons_zero, List.set_cons_succ, i64_w, i32_w]
              rfl
            refine pure_ (i := 3) (N := some 19) (v := ?_) (a' := ?_) #[true, false, true, true, false, false, false, false, false, false] rfl rfl (any_of HT_.out (by kernel_rfl)) (fun _ _ _ h => h) (Or.inl ⟨by rfl, ?_⟩) ?_ ?_
            rotate_left
            · intro w'
              go_simp
              with_reducible rfl
            rotate_left
            · simp only [Act.put, List.setIfInBounds_toArray, List.set_cons_zero, List.set_cons_succ, i64_w, i32_w]
              rfl
            refine take_ (i := 1) (N := some 17) (v := ?_) (a' := ?_) #[true, true, true, true, false, false, false, false, false, false] rfl rfl (take_ofW HT_.out HW_.out (by kernel_rfl)) (fun _ _ _ h => h) (Or.inl ⟨by rfl, ?_⟩) hHeld ?_ ?_
            rotate_left
            · intro w' _
              go_simp
              with_reducible rfl
            rotate_left
            · simp only [Act.put, List.setIfInBounds_toArray, List.set_cons_zero, List.set_cons_succ, i64_w, i32_w]
              rfl
            refine one_ (i := 4) (N := some 20) #[true, true, true, true, true, false, false, false, false, false] rfl rfl (one_of HT_.out (by kernel_rfl)) (by decide) (fun K hK => ?_)
            refine goes_ Tryd.func22 (by kernel_rfl) rfl #[.int .u8 (bt a0 0), .slice A22 y130.length c22] (by rfl) rfl rfl (by (try simp only [List.map_toArray, List.map_cons, List.map_nil]); first | done | rfl | (simp only [List.length_drop, List.length_take]; rfl)) ?_
            with_reducible refine (label_Key.calls k (bt a0 0) _ _ y130 t134 t135 _ ?side1 ?side2 ?side3 A8.out).mono ?_
            (case side1 => exact Glob.below HG.out (by repeat (first | (with_reducible first | exact HB.out | apply below_alloc | apply pw_below_drewN | apply below_drew1) | exact HB.out)))
            (case side2 => repeat (first | exact (by repeat (first | (with_reducible exact HR133.out) | (with_reducible refine Kd.C_alloc ?_ _) | (with_reducible refine Kd.C_drewN ?_ _) | (with_reducible refine Kd.C_drew ?_) | exact HR133.out)) | (with_reducible refine Kd.C_alloc ?_ _) | (with_reducible refine Kd.C_drewN ?_ _) | (with_reducible refine Kd.C_drew ?_)))
            (case side3 => exact HC133.out)
            rintro e w23 ⟨rfl, hb⟩
            refine ⟨_, rfl, ?_⟩
            have n0_ := Aside0.mk (Kd.R_below (by (with_reducible repeat (first | apply Kd.R_alloc | apply Kd.R_drewN | apply Kd.R_drew)); exact HO128.out) hb)
            have n1_ := Aside0.mk (Kd.C_below (by repeat (first | (with_reducible exact HR133.out) | (with_reducible refine Kd.C_alloc ?_ _) | (with_reducible refine Kd.C_drewN ?_ _) | (with_reducible refine Kd.C_drew ?_) | exact HR133.out)) hb)
            have n2_ := Aside0.mk (below_step (by repeat (first | (with_reducible first | exact HB.out | apply below_alloc | apply pw_below_drewN | apply below_drew1) | exact HB.out)) hb)
            clear HO128
            clear HR133
            clear HB
            have HO128 := n0_
            have HR133 := n1_
            have HB := n2_
            clear n0_ n1_ n2_
            (try clear hb)
            (try clear hb2)
            (try clear hk)
            (try clear hi)
            refine hK.out _ _ trivial (fun hHeld => ?_)
            clear hK K
            refine norm_ (a' := ?_) ?_ ?_
            rotate_left
            · show Act.put _ (some 20) _ = _
              simp only [Act.put, List.setIfInBounds_toArray, List.set_cons_zero, List.set_cons_succ, i64_w, i32_w]
              rfl
            refine pure_ (i := 5) (N := some 15) (v := ?_) (a' := ?_) #[true, true, true, true, true, true, false, false, false, false] rfl rfl (any_of HT_.out (by kernel_rfl)) (fun _ _ _ h => h) (Or.inl ⟨by rfl, ?_⟩) ?_ ?_
            rotate_left
            · intro w'
              go_simp
              with_reducible rfl
            rotate_left
            · simp only [Act.put, List.setIfInBounds_toArray, List.set_cons_zero, List.set_cons_succ, i64_w, i32_w]
              rfl
            refine pure_ (i := 6) (N := some 21) (v := ?_) (a' := ?_) #[true, true, true, true, true, true, true, false, false, false] rfl rfl (any_of HT_.out (by kernel_rfl)) (fun _ _ _ h => h) (Or.inl ⟨by rfl, ?_⟩) ?_ ?_
            rotate_left
            · intro w'
              go_simp
              with_reducible rfl
            rotate_left
            · simp only [Act.put, List.setIfInBounds_toArray, List.set_cons_zero, List.set_cons_succ, i64_w, i32_w]
              rfl
            refine pure_ (i := 7) (N := some 22) (v := ?_) (a' := ?_) #[true, true, true, true, true, true, true, true, false, false] rfl rfl (any_of HT_.out (by kernel_rfl)) (fun _ _ _ h => h) (Or.inl ⟨by rfl, ?_⟩) ?_ ?_
            rotate_left
            · intro w'
              go_simp
              with_reducible rfl
            rotate_left
            · simp only [Act.put, List.setIfInBounds_toArray, List.set_cons_zero, List.set_cons_succ, i64_w, i32_w]
              rfl
            refine pure_ (i := 8) (N := some 6) (v := ?_) (a' := ?_) #[true, true, true, true, true, true, true, true, true, false] rfl rfl (any_of HT_.out (by kernel_rfl)) (fun _ _ _ h => h) (Or.inl ⟨by rfl, ?_⟩) ?_ ?_
            rotate_left
            · intro w'
              go_simp
              with_reducible rfl
            rotate_left
            · simp only [Act.put, List.setIfInBounds_toArray, List.set_cons_zero, List.set_cons_succ, i64_w, i32_w]
              rfl
            refine pure_ (i := 9) (N := some 7) (v := ?_) (a' := ?_) #[true, true, true, true, true, true, true, true, true, true] rfl rfl (any_of HT_.out (by kernel_rfl)) (fun _ _ _ h => h) (Or.inl ⟨by rfl, ?_⟩) ?_ ?_
            rotate_left
            · intro w'
              go_simp
              with_reducible rfl
            rotate_left
            · simp only [Act.put, List.setIfInBounds_toArray, List.set_cons_zero, List.set_cons_succ, i64_w, i32_w]
              rfl
            refine done_ (done_of HT_.out (by kernel_rfl)) ?_
            try go_wp2
            go_ret3
            exact ⟨_, by first | rfl | (simp [errW_none, errW_some] <;> rfl) | (simp [*, errW_none, errW_some] <;> rfl), Kd.Q_of_R (by first | exact Kd.R_nil _ _ _ _ _ | exact Kd.N_nil _ _ _ _ _ | exact Kd.V_nil _ _ _ _ _ | exact Kd.Q_nil _ _ _ _ _ | exact Kd.S_nil _ _ _ _ _), by repeat (first | (with_reducible first | exact HB.out | apply below_alloc | apply pw_below_drewN | apply below_drew1) | exact HB.out)⟩
        · rw [if_neg c7] at H
          exact absurd H (by simp)
      · rw [if_neg c5] at H
        exact absurd H (by simp)
    · rw [if_neg c4] at H
      have c4b0 : (((rdOf ByteArray.empty t126 0).size : Int) == 1) = false := beq_eq_false_iff_ne.mpr c4
      have c4b1 : (((rdOf ByteArray.empty t126 0).size : Int) != 1) = true := bne_iff_ne.mpr c4
      simp only [Option.some.injEq, Prod.mk.injEq] at H
      obtain ⟨rfl, rfl, rfl⟩ := H
      go_enter Tryd.func24, Tryd.ntmps24
      go_wp2_with (first | ((with_reducible refine gate_callee (f := 32) rfl ?_); refine goesL_ (some 9) rfl rfl Tryd.func32 (by kernel_rfl) rfl #[.string a0, .string (⟨#[124]⟩ : ByteArray)] rfl (by (try simp only [List.map_toArray, List.map_cons, List.map_nil]); first | done | rfl | (simp only [List.length_drop, List.length_take]; rfl)) ?_; (with_reducible refine (strings_Split.calls a0 (⟨#[124]⟩ : ByteArray) t126 _ ?side1 A2.out).mono ?_); (case side1 => exact Glob.below HG.out (by repeat (first | (with_reducible first | exact HB.out | apply below_alloc | apply pw_below_drewN | apply below_drew1) | exact HB.out))); rintro e w24 ⟨v127, rfl, ho0, hb⟩; refine ⟨_, rfl, ?_⟩; have n0_ := Aside0.mk (Kd.R_lower ho0 (below_size (by repeat (first | (with_reducible first | exact HB.out | apply below_alloc | apply pw_below_drewN | apply below_drew1) | exact HB.out)))); have n1_ := Aside0.mk (below_step (by repeat (first | (with_reducible first | exact HB.out | apply below_alloc | apply pw_below_drewN | apply below_drew1) | exact HB.out)) hb); clear HB; have HO128 := n0_; have HB := n1_; clear n0_ n1_; (try clear hb); (try clear hb2); (try clear hk); (try clear hi); (try clear ho0); obtain ⟨Ao25, co25, eo25⟩ := Kd.R_slice HO128.out; subst eo25; have p129 : 0 ≤ (0 : Int) := (by omega); have q129 : 0 < (t126.length : Int) := of_decide_eq_true (by first | (with_reducible assumption) | assumption); obtain ⟨ad129, e129, hx129_0⟩ := Kd.at_string (Kd.R_reads' HO128.out).2.2 0 p129 q129; cases e129; have qi129 : (0 < t126.length) = True := eq_true (by omega); (try rw [show ((0 : Int)).toNat = 0 from rfl] at hx129_0); (try rw [Addr.add_zero'] at hx129_0); replace p129 := eq_true p129; replace q129 := eq_true q129))
      go_ret3
      exact ⟨_, by first | rfl | (simp [errW_none, errW_some] <;> rfl) | (simp [*, errW_none, errW_some] <;> rfl), Kd.Q_of_R (by first | exact Kd.R_nil _ _ _ _ _ | exact Kd.N_nil _ _ _ _ _ | exact Kd.V_nil _ _ _ _ _ | exact Kd.Q_nil _ _ _ _ _ | exact Kd.S_nil _ _ _ _ _), by repeat (first | (with_reducible first | exact HB.out | apply below_alloc | apply pw_below_drewN | apply below_drew1) | exact HB.out)⟩
  · rw [if_neg c3] at H
    exact absurd H (by simp)

/-! ### cambistref02_Same: function 26 -/
def cambistref02_Same.l0 : Nat → List ByteArray → List ByteArray → Int → Option (Bool)
  | 0, _, _, _ => none
  | k + 1, x0, x1, x5 => if x5 < (x0.length : Int) then (if 0 ≤ x5 then (if x5 < (x1.length : Int) then (if (rdOf ByteArray.empty x0 x5).toList = (rdOf ByteArray.empty x1 x5).toList then (cambistref02_Same.l0 k x0 x1 (wrap64 (x5 + 1))) else (some false)) else (none)) else (none)) else (some true)
def cambistref02_Same.f (k : Nat) (l0 : List ByteArray) (l1 : List ByteArray) : Option (Bool) := if (l0.length : Int) = (l1.length : Int) then (cambistref02_Same.l0 k l0 l1 0) else (some false)
theorem cambistref02_Same.mono_l : ∀ k, (∀ y0 y1 y2, LeO (cambistref02_Same.l0 k y0 y1 y2) (cambistref02_Same.l0 (k + 1) y0 y1 y2))
  | 0 => fun _ _ _ r h => by simp [cambistref02_Same.l0] at h
  | k + 1 => by
    have ih0 := cambistref02_Same.mono_l k
    · intro y0 y1 y2
      unfold cambistref02_Same.l0
      repeat' first
      | (with_reducible exact ih0 _ _ _)
      | (with_reducible exact LeO.refl _)
      | (with_reducible exact LeO.none _)
      | (with_reducible refine LeO.ite ?_ ?_)
      | (with_reducible refine LeO.bind ?_ (fun _ => ?_))
      | exact ih0 _ _ _
      | exact LeO.none _
      | refine LeO.ite ?_ ?_
      | refine LeO.bind ?_ (fun _ => ?_)
theorem cambistref02_Same.mono : ∀ a0 a1 k, LeO (cambistref02_Same.f k a0 a1) (cambistref02_Same.f (k + 1) a0 a1) := by
  intro a0 a1 k
  have ih0 := cambistref02_Same.mono_l k
  unfold cambistref02_Same.f
  repeat' first
      | (with_reducible exact ih0 _ _ _)
      | (with_reducible exact LeO.refl _)
      | (with_reducible exact LeO.none _)
      | (with_reducible refine LeO.ite ?_ ?_)
      | (with_reducible refine LeO.bind ?_ (fun _ => ?_))
      | exact ih0 _ _ _
      | exact LeO.none _
      | refine LeO.ite ?_ ?_
      | refine LeO.bind ?_ (fun _ => ?_)
set_option maxHeartbeats 8000000 in
set_option maxRecDepth 100000 in
theorem cambistref02_Same.calls (k : Nat) (A0 : Option Addr) (c0 : Nat) (l0 : List ByteArray) (A1 : Option Addr) (c1 : Nat) (l1 : List ByteArray) (r : Bool) (w : World) (hG : Glob w) (hr0 : Kd.C Kd.string w A0 l0.length l0) (hc0 : l0.length ≤ c0) (hr1 : Kd.C Kd.string w A1 l1.length l1) (hc1 : l1.length ≤ c1) (h : cambistref02_Same.f k l0 l1 = some r) :
    Calls Tryd.prog 26 #[.slice A0 l0.length c0, .slice A1 l1.length c1] w fun e w' => e = .returned (.bool r) ∧ Drawn0 w w' := by
  have HG := Aside0.mk hG
  clear hG
  have HR0 := Aside0.mk hr0
  have HC0 := Aside0.mk hc0
  clear hr0 hc0
  have HR1 := Aside0.mk hr1
  have HC1 := Aside0.mk hc1
  clear hr1 hc1
  have H : (if (l0.length : Int) = (l1.length : Int) then (cambistref02_Same.l0 k l0 l1 0) else (some false)) = some r := h
  clear h
  by_cases c3 : (l0.length : Int) = (l1.length : Int)
  · rw [if_pos c3] at H
    have c3b0 : ((l0.length : Int) == (l1.length : Int)) = true := beq_iff_eq.mpr c3
    have c3b1 : ((l0.length : Int) != (l1.length : Int)) = false := bne_eq_false_iff_eq.mpr c3
    have c3b2 : (l0.length == l1.length) = true := by first | simpa using c3 | (simp at c3 ⊢; omega)
    clear c3
    have H' := Aside0.mk H
    clear H
    go_enter Tryd.func26, Tryd.ntmps26
    go_wp2
    repeat (go_quiet (fail); try go_wp2)
    go_loopg [5] k (fun kq v5 w' => ∃ (x5_1 : Int), v5 = .int .i64 x5_1 ∧ Aside0 (cambistref02_Same.l0 kq l0 l1 x5_1 = some r) ∧ Aside0 (kq ≤ k) ∧ Drawn0 w w')
    case atStart => exact ⟨(0), (by first | rfl | (simp; done) | (simp [*]; done)), H', ⟨Nat.le_refl _⟩, by repeat (first | exact Drawn0.refl _ | apply Drawn0.step)⟩
    case round =>
      clear H'
      try clear c1
      try clear c2
      try clear p2
      try clear c3
      try clear c3b0
      try clear c3b1
      try clear c3b2
      obtain ⟨x5_1, rfl, HA, HK1, ⟨m1, rfl⟩⟩ := hrel
      cases gk with
      | zero => exact absurd HA.out (by simp [cambistref02_Same.l0])
      | succ k1 =>
        have H := HA.out
        clear HA
        simp only [cambistref02_Same.l0] at H
        by_cases c4 : x5_1 < (l0.length : Int)
        · rw [if_pos c4] at H
          have c4b0 : decide (x5_1 < (l0.length : Int)) = true := decide_eq_true c4
          clear c4
          by_cases c5 : 0 ≤ x5_1
          · rw [if_pos c5] at H
            have c5b0 : decide (0 ≤ x5_1) = true := decide_eq_true c5
            clear c5
            by_cases c6 : x5_1 < (l1.length : Int)
            · rw [if_pos c6] at H
              have c6b0 : decide (x5_1 < (l1.length : Int)) = true := decide_eq_true c6
              clear c6
              by_cases c7 : (rdOf ByteArray.empty l0 x5_1).toList = (rdOf ByteArray.empty l1 x5_1).toList
              · rw [if_pos c7] at H
                have c7b0 : ((rdOf ByteArray.empty l0 x5_1).toList == (rdOf ByteArray.empty l1 x5_1).toList) = true := beq_iff_eq.mpr c7
                have c7b1 : ((rdOf ByteArray.empty l0 x5_1).toList != (rdOf ByteArray.empty l1 x5_1).toList) = false := bne_eq_false_iff_eq.mpr c7
                clear c7
                have H' := Aside0.mk H
                clear H
                have p139 : 0 ≤ (x5_1 : Int) := of_decide_eq_true (by first | (with_reducible assumption) | assumption)
                have q139 : x5_1 < (l0.length : Int) := of_decide_eq_true (by first | (with_reducible assumption) | assumption)
                obtain ⟨ad139, e139, hx139_0⟩ := Kd.at_string HR0.out x5_1 p139 q139
                cases e139
                replace p139 := eq_true p139
                replace q139 := eq_true q139
                have p140 : 0 ≤ (x5_1 : Int) := of_decide_eq_true (by first | (with_reducible assumption) | assumption)
                have q140 : x5_1 < (l1.length : Int) := of_decide_eq_true (by first | (with_reducible assumption) | assumption)
                obtain ⟨ad140, e140, hx140_0⟩ := Kd.at_string HR1.out x5_1 p140 q140
                cases e140
                replace p140 := eq_true p140
                replace q140 := eq_true q140
                go_wp2
                repeat (go_quiet (fail); try go_wp2)
                go_roundg k1
                case measure => have := HK1.out; omega
                case rel => exact ⟨(wrap64 (x5_1 + 1)), (by first | rfl | (simp; done) | (simp [*]; done)), H', ⟨by have := HK1.out; omega⟩, by repeat (first | exact Drawn0.refl _ | apply Drawn0.step)⟩
              · rw [if_neg c7] at H
                have c7b0 : ((rdOf ByteArray.empty l0 x5_1).toList == (rdOf ByteArray.empty l1 x5_1).toList) = false := beq_eq_false_iff_ne.mpr c7
                have c7b1 : ((rdOf ByteArray.empty l0 x5_1).toList != (rdOf ByteArray.empty l1 x5_1).toList) = true := bne_iff_ne.mpr c7
                obtain rfl := Option.some.inj H
                have p139 : 0 ≤ (x5_1 : Int) := of_decide_eq_true (by first | (with_reducible assumption) | assumption)
                have q139 : x5_1 < (l0.length : Int) := of_decide_eq_true (by first | (with_reducible assumption) | assumption)
                obtain ⟨ad139, e139, hx139_0⟩ := Kd.at_string HR0.out x5_1 p139 q139
                cases e139
                replace p139 := eq_true p139
                replace q139 := eq_true q139
                have p140 : 0 ≤ (x5_1 : Int) := of_decide_eq_true (by first | (with_reducible assumption) | assumption)
                have q140 : x5_1 < (l1.length : Int) := of_decide_eq_true (by first | (with_reducible assumption) | assumption)
                obtain ⟨ad140, e140, hx140_0⟩ := Kd.at_string HR1.out x5_1 p140 q140
                cases e140
                replace p140 := eq_true p140
                replace q140 := eq_true q140
                go_wp2
                repeat (go_quiet (fail); try go_wp2)
                go_ret
                exact ⟨by first | rfl | (simp; done) | (simp [*]; done), by repeat (first | exact Drawn0.refl _ | apply Drawn0.step)⟩
            · rw [if_neg c6] at H
              exact absurd H (by simp)
          · rw [if_neg c5] at H
            exact absurd H (by simp)
        · rw [if_neg c4] at H
          have c4b0 : decide (x5_1 < (l0.length : Int)) = false := decide_eq_false c4
          clear c4
          obtain rfl := Option.some.inj H
          go_wp2
          repeat (go_quiet (fail); try go_wp2)
          go_ret
          exact ⟨by first | rfl | (simp; done) | (simp [*]; done), by repeat (first | exact Drawn0.refl _ | apply Drawn0.step)⟩
  · rw [if_neg c3] at H
    have c3b0 : ((l0.length : Int) == (l1.length : Int)) = false := beq_eq_false_iff_ne.mpr c3
    have c3b1 : ((l0.length : Int) != (l1.length : Int)) = true := bne_iff_ne.mpr c3
    have c3b2 : (l0.length == l1.length) = false := by first | simpa using c3 | (simp at c3 ⊢; omega)
    obtain rfl := Option.some.inj H
    go_enter Tryd.func26, Tryd.ntmps26
    go_wp2
    repeat (go_quiet (fail); try go_wp2)
    go_ret
    exact ⟨by first | rfl | (simp; done) | (simp [*]; done), by repeat (first | exact Drawn0.refl _ | apply Drawn0.step)⟩

/-! ### cambistlaw02_awake: function 9 -/
def cambistlaw02_awake.f (k : Nat)  : Option (Bool) := (label_Key.f k 98 (([(⟨#[97, 110, 110]⟩ : ByteArray), (⟨#[85, 83, 68]⟩ : ByteArray)] : List ByteArray))).bind fun bt144 => ((label_Split.f k bt144.1).bind fun bt146 => ((label_Split.f k (⟨#[98, 124]⟩ : ByteArray)).bind fun bt151 => ((label_Digits.f 255).bind fun t156 => ((label_Number.f t156).bind fun bt157 => ((label_Number.f (⟨#[102, 102]⟩ : ByteArray)).bind fun bt159 => ((cambistref02_Same.f k bt146.2.1 (([(⟨#[97, 110, 110]⟩ : ByteArray), (⟨#[85, 83, 68]⟩ : ByteArray)] : List ByteArray))).bind fun t164 => ((label_Who.f (⟨#[97, 110, 110, 55]⟩ : ByteArray)).bind fun t165 => (if t165 = true then ((label_Who.f (⟨#[55, 97, 110, 110]⟩ : ByteArray)).bind fun t166 => (if t166 = true then (none) else ((label_Asset.f (⟨#[85, 83, 68]⟩ : ByteArray)).bind fun t167 => (if t167 = true then ((label_Word.f (⟨#[82, 45, 49]⟩ : ByteArray)).bind fun t168 => (if t168 = true then (if bt144.1.toList = ([98, 124, 97, 110, 110, 124, 85, 83, 68] : List UInt8) then (if bt144.2 = 0 then (if bt146.1 = 98 then (if t164 = true then (if bt146.2.2 = 0 then (if bt151.2.2 = 20 then (if bt157.1 = 255 then (if bt157.2 = 0 then (if bt159.2 = 20 then ((label_End.f (⟨#[98]⟩ : ByteArray)).bind fun t169 => (some (t169.toList == ([98, 125] : List UInt8)))) else (none)) else (none)) else (none)) else (none)) else (none)) else (none)) else (none)) else (none)) else (none)) else (none))) else (none))))) else (none)))))))))
theorem cambistlaw02_awake.mono : ∀ k, LeO (cambistlaw02_awake.f k ) (cambistlaw02_awake.f (k + 1) ) := by
  intro  k
  unfold cambistlaw02_awake.f
  repeat' first
      | (with_reducible exact cambistref02_Same.mono _ _ _)
      | (with_reducible exact label_Key.mono _ _ _)
      | (with_reducible exact label_Split.mono _ _)
      | (with_reducible exact LeO.refl _)
      | (with_reducible exact LeO.none _)
      | (with_reducible refine LeO.ite ?_ ?_)
      | (with_reducible refine LeO.bind ?_ (fun _ => ?_))
      | exact cambistref02_Same.mono _ _ _
      | exact label_Key.mono _ _ _
      | exact label_Split.mono _ _
      | exact LeO.none _
      | refine LeO.ite ?_ ?_
      | refine LeO.bind ?_ (fun _ => ?_)
set_option maxHeartbeats 8000000 in
set_option maxRecDepth 100000 in
theorem cambistlaw02_awake.calls (k : Nat)  (r : Bool) (w : World) (hG : Glob w) (h : cambistlaw02_awake.f k  = some r) :
    Calls Tryd.prog 9 #[] w fun e w' => e = .returned (.bool r) ∧ Below w.heap.size w w' := by
  have HG := Aside0.mk hG
  clear hG
  have HB := Aside0.mk (Below.refl w.heap.size w)
  have H : ((label_Key.f k 98 (([(⟨#[97, 110, 110]⟩ : ByteArray), (⟨#[85, 83, 68]⟩ : ByteArray)] : List ByteArray))).bind fun bt144 => ((label_Split.f k bt144.1).bind fun bt146 => ((label_Split.f k (⟨#[98, 124]⟩ : ByteArray)).bind fun bt151 => ((label_Digits.f 255).bind fun t156 => ((label_Number.f t156).bind fun bt157 => ((label_Number.f (⟨#[102, 102]⟩ : ByteArray)).bind fun bt159 => ((cambistref02_Same.f k bt146.2.1 (([(⟨#[97, 110, 110]⟩ : ByteArray), (⟨#[85, 83, 68]⟩ : ByteArray)] : List ByteArray))).bind fun t164 => ((label_Who.f (⟨#[97, 110, 110, 55]⟩ : ByteArray)).bind fun t165 => (if t165 = true then ((label_Who.f (⟨#[55, 97, 110, 110]⟩ : ByteArray)).bind fun t166 => (if t166 = true then (none) else ((label_Asset.f (⟨#[85, 83, 68]⟩ : ByteArray)).bind fun t167 => (if t167 = true then ((label_Word.f (⟨#[82, 45, 49]⟩ : ByteArray)).bind fun t168 => (if t168 = true then (if bt144.1.toList = ([98, 124, 97, 110, 110, 124, 85, 83, 68] : List UInt8) then (if bt144.2 = 0 then (if bt146.1 = 98 then (if t164 = true then (if bt146.2.2 = 0 then (if bt151.2.2 = 20 then (if bt157.1 = 255 then (if bt157.2 = 0 then (if bt159.2 = 20 then ((label_End.f (⟨#[98]⟩ : ByteArray)).bind fun t169 => (some (t169.toList == ([98, 125] : List UInt8)))) else (none)) else (none)) else (none)) else (none)) else (none)) else (none)) else (none)) else (none)) else (none)) else (none))) else (none))))) else (none)))))))))) = some r := h
  clear h
  obtain ⟨y141, hy141⟩ : ∃ y_ : List ByteArray, y_ = (([(⟨#[97, 110, 110]⟩ : ByteArray), (⟨#[85, 83, 68]⟩ : ByteArray)] : List ByteArray)) := ⟨_, rfl⟩
  replace H : ((label_Key.f k 98 y141).bind fun bt144 => ((label_Split.f k bt144.1).bind fun bt146 => ((label_Split.f k (⟨#[98, 124]⟩ : ByteArray)).bind fun bt151 => ((label_Digits.f 255).bind fun t156 => ((label_Number.f t156).bind fun bt157 => ((label_Number.f (⟨#[102, 102]⟩ : ByteArray)).bind fun bt159 => ((cambistref02_Same.f k bt146.2.1 (([(⟨#[97, 110, 110]⟩ : ByteArray), (⟨#[85, 83, 68]⟩ : ByteArray)] : List ByteArray))).bind fun t164 => ((label_Who.f (⟨#[97, 110, 110, 55]⟩ : ByteArray)).bind fun t165 => (if t165 = true then ((label_Who.f (⟨#[55, 97, 110, 110]⟩ : ByteArray)).bind fun t166 => (if t166 = true then (none) else ((label_Asset.f (⟨#[85, 83, 68]⟩ : ByteArray)).bind fun t167 => (if t167 = true then ((label_Word.f (⟨#[82, 45, 49]⟩ : ByteArray)).bind fun t168 => (if t168 = true then (if bt144.1.toList = ([98, 124, 97, 110, 110, 124, 85, 83, 68] : List UInt8) then (if bt144.2 = 0 then (if bt146.1 = 98 then (if t164 = true then (if bt146.2.2 = 0 then (if bt151.2.2 = 20 then (if bt157.1 = 255 then (if bt157.2 = 0 then (if bt159.2 = 20 then ((label_End.f (⟨#[98]⟩ : ByteArray)).bind fun t169 => (some (t169.toList == ([98, 125] : List UInt8)))) else (none)) else (none)) else (none)) else (none)) else (none)) else (none)) else (none)) else (none)) else (none)) else (none))) else (none))))) else (none)))))))))) = some r := by first | (rw [hy141]; with_reducible exact H) | (have H2_ := (Option.bind_some _ _).symm.trans H; rw [hy141]; with_reducible exact H2_) | (have H2_ := (Option.bind_some _ _).symm.trans H; with_reducible exact H2_) | with_reducible exact H | (rw [hy141]; exact H) | exact H
  have Ny141 := Aside0.mk hy141
  clear hy141
  replace H := Option.bind_eq_some_iff.mp H
  obtain ⟨⟨t144, t145⟩, A10, H⟩ := H
  replace H : ((label_Split.f k t144).bind fun bt146 => ((label_Split.f k (⟨#[98, 124]⟩ : ByteArray)).bind fun bt151 => ((label_Digits.f 255).bind fun t156 => ((label_Number.f t156).bind fun bt157 => ((label_Number.f (⟨#[102, 102]⟩ : ByteArray)).bind fun bt159 => ((cambistref02_Same.f k bt146.2.1 (([(⟨#[97, 110, 110]⟩ : ByteArray), (⟨#[85, 83, 68]⟩ : ByteArray)] : List ByteArray))).bind fun t164 => ((label_Who.f (⟨#[97, 110, 110, 55]⟩ : ByteArray)).bind fun t165 => (if t165 = true then ((label_Who.f (⟨#[55, 97, 110, 110]⟩ : ByteArray)).bind fun t166 => (if t166 = true then (none) else ((label_Asset.f (⟨#[85, 83, 68]⟩ : ByteArray)).bind fun t167 => (if t167 = true then ((label_Word.f (⟨#[82, 45, 49]⟩ : ByteArray)).bind fun t168 => (if t168 = true then (if t144.toList = ([98, 124, 97, 110, 110, 124, 85, 83, 68] : List UInt8) then (if t145 = 0 then (if bt146.1 = 98 then (if t164 = true then (if bt146.2.2 = 0 then (if bt151.2.2 = 20 then (if bt157.1 = 255 then (if bt157.2 = 0 then (if bt159.2 = 20 then ((label_End.f (⟨#[98]⟩ : ByteArray)).bind fun t169 => (some (t169.toList == ([98, 125] : List UInt8)))) else (none)) else (none)) else (none)) else (none)) else (none)) else (none)) else (none)) else (none)) else (none)) else (none))) else (none))))) else (none))))))))) = some r := H
  have A1 := Aside0.mk A10
  clear A10
  replace H := Option.bind_eq_some_iff.mp H
  obtain ⟨⟨t146, t147, t148⟩, A20, H⟩ := H
  replace H : ((label_Split.f k (⟨#[98, 124]⟩ : ByteArray)).bind fun bt151 => ((label_Digits.f 255).bind fun t156 => ((label_Number.f t156).bind fun bt157 => ((label_Number.f (⟨#[102, 102]⟩ : ByteArray)).bind fun bt159 => ((cambistref02_Same.f k t147 (([(⟨#[97, 110, 110]⟩ : ByteArray), (⟨#[85, 83, 68]⟩ : ByteArray)] : List ByteArray))).bind fun t164 => ((label_Who.f (⟨#[97, 110, 110, 55]⟩ : ByteArray)).bind fun t165 => (if t165 = true then ((label_Who.f (⟨#[55, 97, 110, 110]⟩ : ByteArray)).bind fun t166 => (if t166 = true then (none) else ((label_Asset.f (⟨#[85, 83, 68]⟩ : ByteArray)).bind fun t167 => (if t167 = true then ((label_Word.f (⟨#[82, 45, 49]⟩ : ByteArray)).bind fun t168 => (if t168 = true then (if t144.toList = ([98, 124, 97, 110, 110, 124, 85, 83, 68] : List UInt8) then (if t145 = 0 then (if t146 = 98 then (if t164 = true then (if t148 = 0 then (if bt151.2.2 = 20 then (if bt157.1 = 255 then (if bt157.2 = 0 then (if bt159.2 = 20 then ((label_End.f (⟨#[98]⟩ : ByteArray)).bind fun t169 => (some (t169.toList == ([98, 125] : List UInt8)))) else (none)) else (none)) else (none)) else (none)) else (none)) else (none)) else (none)) else (none)) else (none)) else (none))) else (none))))) else (none)))))))) = some r := H
  have A2 := Aside0.mk A20
  clear A20
  replace H := Option.bind_eq_some_iff.mp H
  obtain ⟨⟨t151, t152, t153⟩, A30, H⟩ := H
  replace H : ((label_Digits.f 255).bind fun t156 => ((label_Number.f t156).bind fun bt157 => ((label_Number.f (⟨#[102, 102]⟩ : ByteArray)).bind fun bt159 => ((cambistref02_Same.f k t147 (([(⟨#[97, 110, 110]⟩ : ByteArray), (⟨#[85, 83, 68]⟩ : ByteArray)] : List ByteArray))).bind fun t164 => ((label_Who.f (⟨#[97, 110, 110, 55]⟩ : ByteArray)).bind fun t165 => (if t165 = true then ((label_Who.f (⟨#[55, 97, 110, 110]⟩ : ByteArray)).bind fun t166 => (if t166 = true then (none) else ((label_Asset.f (⟨#[85, 83, 68]⟩ : ByteArray)).bind fun t167 => (if t167 = true then ((label_Word.f (⟨#[82, 45, 49]⟩ : ByteArray)).bind fun t168 => (if t168 = true then (if t144.toList = ([98, 124, 97, 110, 110, 124, 85, 83, 68] : List UInt8) then (if t145 = 0 then (if t146 = 98 then (if t164 = true then (if t148 = 0 then (if t153 = 20 then (if bt157.1 = 255 then (if bt157.2 = 0 then (if bt159.2 = 20 then ((label_End.f (⟨#[98]⟩ : ByteArray)).bind fun t169 => (some (t169.toList == ([98, 125] : List UInt8)))) else (none)) else (none)) else (none)) else (none)) else (none)) else (none)) else (none)) else (none)) else (none)) else (none))) else (none))))) else (none))))))) = some r := H
  have A3 := Aside0.mk A30
  clear A30
  replace H := Option.bind_eq_some_iff.mp H
  obtain ⟨t156, A40, H⟩ := H
  replace H : ((label_Number.f t156).bind fun bt157 => ((label_Number.f (⟨#[102, 102]⟩ : ByteArray)).bind fun bt159 => ((cambistref02_Same.f k t147 (([(⟨#[97, 110, 110]⟩ : ByteArray), (⟨#[85, 83, 68]⟩ : ByteArray)] : List ByteArray))).bind fun t164 => ((label_Who.f (⟨#[97, 110, 110, 55]⟩ : ByteArray)).bind fun t165 => (if t165 = true then ((label_Who.f (⟨#[55, 97, 110, 110]⟩ : ByteArray)).bind fun t166 => (if t166 = true then (none) else ((label_Asset.f (⟨#[85, 83, 68]⟩ : ByteArray)).bind fun t167 => (if t167 = true then ((label_Word.f (⟨#[82, 45, 49]⟩ : ByteArray)).bind fun t168 => (if t168 = true then (if t144.toList = ([98, 124, 97, 110, 110, 124, 85, 83, 68] : List UInt8) then (if t145 = 0 then (if t146 = 98 then (if t164 = true then (if t148 = 0 then (if t153 = 20 then (if bt157.1 = 255 then (if bt157.2 = 0 then (if bt159.2 = 20 then ((label_End.f (⟨#[98]⟩ : ByteArray)).bind fun t169 => (some (t169.toList == ([98, 125] : List UInt8)))) else (none)) else (none)) else (none)) else (none)) else (none)) else (none)) else (none)) else (none)) else (none)) else (none))) else (none))))) else (none)))))) = some r := H
  have A4 := Aside0.mk A40
  clear A40
  replace H := Option.bind_eq_some_iff.mp H
  obtain ⟨⟨t157, t158⟩, A50, H⟩ := H
  replace H : ((label_Number.f (⟨#[102, 102]⟩ : ByteArray)).bind fun bt159 => ((cambistref02_Same.f k t147 (([(⟨#[97, 110, 110]⟩ : ByteArray), (⟨#[85, 83, 68]⟩ : ByteArray)] : List ByteArray))).bind fun t164 => ((label_Who.f (⟨#[97, 110, 110, 55]⟩ : ByteArray)).bind fun t165 => (if t165 = true then ((label_Who.f (⟨#[55, 97, 110, 110]⟩ : ByteArray)).bind fun t166 => (if t166 = true then (none) else ((label_Asset.f (⟨#[85, 83, 68]⟩ : ByteArray)).bind fun t167 => (if t167 = true then ((label_Word.f (⟨#[82, 45, 49]⟩ : ByteArray)).bind fun t168 => (if t168 = true then (if t144.toList = ([98, 124, 97, 110, 110, 124, 85, 83, 68] : List UInt8) then (if t145 = 0 then (if t146 = 98 then (if t164 = true then (if t148 = 0 then (if t153 = 20 then (if t157 = 255 then (if t158 = 0 then (if bt159.2 = 20 then ((label_End.f (⟨#[98]⟩ : ByteArray)).bind fun t169 => (some (t169.toList == ([98, 125] : List UInt8)))) else (none)) else (none)) else (none)) else (none)) else (none)) else (none)) else (none)) else (none)) else (none)) else (none))) else (none))))) else (none))))) = some r := H
  have A5 := Aside0.mk A50
  clear A50
  replace H := Option.bind_eq_some_iff.mp H
  obtain ⟨⟨t159, t160⟩, A60, H⟩ := H
  replace H : ((cambistref02_Same.f k t147 (([(⟨#[97, 110, 110]⟩ : ByteArray), (⟨#[85, 83, 68]⟩ : ByteArray)] : List ByteArray))).bind fun t164 => ((label_Who.f (⟨#[97, 110, 110, 55]⟩ : ByteArray)).bind fun t165 => (if t165 = true then ((label_Who.f (⟨#[55, 97, 110, 110]⟩ : ByteArray)).bind fun t166 => (if t166 = true then (none) else ((label_Asset.f (⟨#[85, 83, 68]⟩ : ByteArray)).bind fun t167 => (if t167 = true then ((label_Word.f (⟨#[82, 45, 49]⟩ : ByteArray)).bind fun t168 => (if t168 = true then (if t144.toList = ([98, 124, 97, 110, 110, 124, 85, 83, 68] : List UInt8) then (if t145 = 0 then (if t146 = 98 then (if t164 = true then (if t148 = 0 then (if t153 = 20 then (if t157 = 255 then (if t158 = 0 then (if t160 = 20 then ((label_End.f (⟨#[98]⟩ : ByteArray)).bind fun t169 => (some (t169.toList == ([98, 125] : List UInt8)))) else (none)) else (none)) else (none)) else (none)) else (none)) else (none)) else (none)) else (none)) else (none)) else (none))) else (none))))) else (none)))) = some r := H
  have A6 := Aside0.mk A60
  clear A60
  obtain ⟨y161, hy161⟩ : ∃ y_ : List ByteArray, y_ = (([(⟨#[97, 110, 110]⟩ : ByteArray), (⟨#[85, 83, 68]⟩ : ByteArray)] : List ByteArray)) := ⟨_, rfl⟩
  replace H : ((cambistref02_Same.f k t147 y161).bind fun t164 => ((label_Who.f (⟨#[97, 110, 110, 55]⟩ : ByteArray)).bind fun t165 => (if t165 = true then ((label_Who.f (⟨#[55, 97, 110, 110]⟩ : ByteArray)).bind fun t166 => (if t166 = true then (none) else ((label_Asset.f (⟨#[85, 83, 68]⟩ : ByteArray)).bind fun t167 => (if t167 = true then ((label_Word.f (⟨#[82, 45, 49]⟩ : ByteArray)).bind fun t168 => (if t168 = true then (if t144.toList = ([98, 124, 97, 110, 110, 124, 85, 83, 68] : List UInt8) then (if t145 = 0 then (if t146 = 98 then (if t164 = true then (if t148 = 0 then (if t153 = 20 then (if t157 = 255 then (if t158 = 0 then (if t160 = 20 then ((label_End.f (⟨#[98]⟩ : ByteArray)).bind fun t169 => (some (t169.toList == ([98, 125] : List UInt8)))) else (none)) else (none)) else (none)) else (none)) else (none)) else (none)) else (none)) else (none)) else (none)) else (none))) else (none))))) else (none)))) = some r := by first | (rw [hy161]; with_reducible exact H) | (have H2_ := (Option.bind_some _ _).symm.trans H; rw [hy161]; with_reducible exact H2_) | (have H2_ := (Option.bind_some _ _).symm.trans H; with_reducible exact H2_) | with_reducible exact H | (rw [hy161]; exact H) | exact H
  have Ny161 := Aside0.mk hy161
  clear hy161
  replace H := Option.bind_eq_some_iff.mp H
  obtain ⟨t164, A70, H⟩ := H
  replace H : ((label_Who.f (⟨#[97, 110, 110, 55]⟩ : ByteArray)).bind fun t165 => (if t165 = true then ((label_Who.f (⟨#[55, 97, 110, 110]⟩ : ByteArray)).bind fun t166 => (if t166 = true then (none) else ((label_Asset.f (⟨#[85, 83, 68]⟩ : ByteArray)).bind fun t167 => (if t167 = true then ((label_Word.f (⟨#[82, 45, 49]⟩ : ByteArray)).bind fun t168 => (if t168 = true then (if t144.toList = ([98, 124, 97, 110, 110, 124, 85, 83, 68] : List UInt8) then (if t145 = 0 then (if t146 = 98 then (if t164 = true then (if t148 = 0 then (if t153 = 20 then (if t157 = 255 then (if t158 = 0 then (if t160 = 20 then ((label_End.f (⟨#[98]⟩ : ByteArray)).bind fun t169 => (some (t169.toList == ([98, 125] : List UInt8)))) else (none)) else (none)) else (none)) else (none)) else (none)) else (none)) else (none)) else (none)) else (none)) else (none))) else (none))))) else (none))) = some r := H
  have A7 := Aside0.mk A70
  clear A70
  replace H := Option.bind_eq_some_iff.mp H
  obtain ⟨t165, A80, H⟩ := H
  replace H : (if t165 = true then ((label_Who.f (⟨#[55, 97, 110, 110]⟩ : ByteArray)).bind fun t166 => (if t166 = true then (none) else ((label_Asset.f (⟨#[85, 83, 68]⟩ : ByteArray)).bind fun t167 => (if t167 = true then ((label_Word.f (⟨#[82, 45, 49]⟩ : ByteArray)).bind fun t168 => (if t168 = true then (if t144.toList = ([98, 124, 97, 110, 110, 124, 85, 83, 68] : List UInt8) then (if t145 = 0 then (if t146 = 98 then (if t164 = true then (if t148 = 0 then (if t153 = 20 then (if t157 = 255 then (if t158 = 0 then (if t160 = 20 then ((label_End.f (⟨#[98]⟩ : ByteArray)).bind fun t169 => (some (t169.toList == ([98, 125] : List UInt8)))) else (none)) else (none)) else (none)) else (none)) else (none)) else (none)) else (none)) else (none)) else (none)) else (none))) else (none))))) else (none)) = some r := H
  have A8 := Aside0.mk A80
  clear A80
  by_cases c9 : t165 = true
  · subst c9
    have H1 : ((label_Who.f (⟨#[55, 97, 110, 110]⟩ : ByteArray)).bind fun t166 => (if t166 = true then (none) else ((label_Asset.f (⟨#[85, 83, 68]⟩ : ByteArray)).bind fun t167 => (if t167 = true then ((label_Word.f (⟨#[82, 45, 49]⟩ : ByteArray)).bind fun t168 => (if t168 = true then (if t144.toList = ([98, 124, 97, 110, 110, 124, 85, 83, 68] : List UInt8) then (if t145 = 0 then (if t146 = 98 then (if t164 = true then (if t148 = 0 then (if t153 = 20 then (if t157 = 255 then (if t158 = 0 then (if t160 = 20 then ((label_End.f (⟨#[98]⟩ : ByteArray)).bind fun t169 => (some (t169.toList == ([98, 125] : List UInt8)))) else (none)) else (none)) else (none)) else (none)) else (none)) else (none)) else (none)) else (none)) else (none)) else (none))) else (none))))) = some r := by rw [if_pos rfl] at H; exact H
    clear H
    have H := H1
    clear H1
    replace H := Option.bind_eq_some_iff.mp H
    obtain ⟨t166, A100, H⟩ := H
    replace H : (if t166 = true then (none) else ((label_Asset.f (⟨#[85, 83, 68]⟩ : ByteArray)).bind fun t167 => (if t167 = true then ((label_Word.f (⟨#[82, 45, 49]⟩ : ByteArray)).bind fun t168 => (if t168 = true then (if t144.toList = ([98, 124, 97, 110, 110, 124, 85, 83, 68] : List UInt8) then (if t145 = 0 then (if t146 = 98 then (if t164 = true then (if t148 = 0 then (if t153 = 20 then (if t157 = 255 then (if t158 = 0 then (if t160 = 20 then ((label_End.f (⟨#[98]⟩ : ByteArray)).bind fun t169 => (some (t169.toList == ([98, 125] : List UInt8)))) else (none)) else (none)) else (none)) else (none)) else (none)) else (none)) else (none)) else (none)) else (none)) else (none))) else (none)))) = some r := H
    have A10 := Aside0.mk A100
    clear A100
    by_cases c11 : t166 = true
    · subst c11
      have H1 : (none) = some r := by rw [if_pos rfl] at H; exact H
      clear H
      have H := H1
      clear H1
      exact absurd H (by simp)
    · replace c11 := Bool.eq_false_iff.mpr c11
      subst c11
      have H1 : ((label_Asset.f (⟨#[85, 83, 68]⟩ : ByteArray)).bind fun t167 => (if t167 = true then ((label_Word.f (⟨#[82, 45, 49]⟩ : ByteArray)).bind fun t168 => (if t168 = true then (if t144.toList = ([98, 124, 97, 110, 110, 124, 85, 83, 68] : List UInt8) then (if t145 = 0 then (if t146 = 98 then (if t164 = true then (if t148 = 0 then (if t153 = 20 then (if t157 = 255 then (if t158 = 0 then (if t160 = 20 then ((label_End.f (⟨#[98]⟩ : ByteArray)).bind fun t169 => (some (t169.toList == ([98, 125] : List UInt8)))) else (none)) else (none)) else (none)) else (none)) else (none)) else (none)) else (none)) else (none)) else (none)) else (none))) else (none))) = some r := by rw [if_neg (show ¬ (false = true) by decide)] at H; exact H
      clear H
      have H := H1
      clear H1
      replace H := Option.bind_eq_some_iff.mp H
      obtain ⟨t167, A120, H⟩ := H
      replace H : (if t167 = true then ((label_Word.f (⟨#[82, 45, 49]⟩ : ByteArray)).bind fun t168 => (if t168 = true then (if t144.toList = ([98, 124, 97, 110, 110, 124, 85, 83, 68] : List UInt8) then (if t145 = 0 then (if t146 = 98 then (if t164 = true then (if t148 = 0 then (if t153 = 20 then (if t157 = 255 then (if t158 = 0 then (if t160 = 20 then ((label_End.f (⟨#[98]⟩ : ByteArray)).bind fun t169 => (some (t169.toList == ([98, 125] : List UInt8)))) else (none)) else (none)) else (none)) else (none)) else (none)) else (none)) else (none)) else (none)) else (none)) else (none))) else (none)) = some r := H
      have A12 := Aside0.mk A120
      clear A120
      by_cases c13 : t167 = true
      · subst c13
        have H1 : ((label_Word.f (⟨#[82, 45, 49]⟩ : ByteArray)).bind fun t168 => (if t168 = true then (if t144.toList = ([98, 124, 97, 110, 110, 124, 85, 83, 68] : List UInt8) then (if t145 = 0 then (if t146 = 98 then (if t164 = true then (if t148 = 0 then (if t153 = 20 then (if t157 = 255 then (if t158 = 0 then (if t160 = 20 then ((label_End.f (⟨#[98]⟩ : ByteArray)).bind fun t169 => (some (t169.toList == ([98, 125] : List UInt8)))) else (none)) else (none)) else (none)) else (none)) else (none)) else (none)) else (none)) else (none)) else (none)) else (none))) = some r := by rw [if_pos rfl] at H; exact H
        clear H
        have H := H1
        clear H1
        replace H := Option.bind_eq_some_iff.mp H
        obtain ⟨t168, A140, H⟩ := H
        replace H : (if t168 = true then (if t144.toList = ([98, 124, 97, 110, 110, 124, 85, 83, 68] : List UInt8) then (if t145 = 0 then (if t146 = 98 then (if t164 = true then (if t148 = 0 then (if t153 = 20 then (if t157 = 255 then (if t158 = 0 then (if t160 = 20 then ((label_End.f (⟨#[98]⟩ : ByteArray)).bind fun t169 => (some (t169.toList == ([98, 125] : List UInt8)))) else (none)) else (none)) else (none)) else (none)) else (none)) else (none)) else (none)) else (none)) else (none)) else (none)) = some r := H
        have A14 := Aside0.mk A140
        clear A140
        by_cases c15 : t168 = true
        · subst c15
          have H1 : (if t144.toList = ([98, 124, 97, 110, 110, 124, 85, 83, 68] : List UInt8) then (if t145 = 0 then (if t146 = 98 then (if t164 = true then (if t148 = 0 then (if t153 = 20 then (if t157 = 255 then (if t158 = 0 then (if t160 = 20 then ((label_End.f (⟨#[98]⟩ : ByteArray)).bind fun t169 => (some (t169.toList == ([98, 125] : List UInt8)))) else (none)) else (none)) else (none)) else (none)) else (none)) else (none)) else (none)) else (none)) else (none)) = some r := by rw [if_pos rfl] at H; exact H
          clear H
          have H := H1
          clear H1
          by_cases c16 : t144.toList = ([98, 124, 97, 110, 110, 124, 85, 83, 68] : List UInt8)
          · rw [if_pos c16] at H
            have c16b0 : (t144.toList == ([98, 124, 97, 110, 110, 124, 85, 83, 68] : List UInt8)) = true := beq_iff_eq.mpr c16
            have c16b1 : (t144.toList != ([98, 124, 97, 110, 110, 124, 85, 83, 68] : List UInt8)) = false := bne_eq_false_iff_eq.mpr c16
            clear c16
            by_cases c17 : t145 = 0
            · rw [if_pos c17] at H
              have c17b0 : (t145 == 0) = true := beq_iff_eq.mpr c17
              have c17b1 : (t145 != 0) = false := bne_eq_false_iff_eq.mpr c17
              clear c17
              by_cases c18 : t146 = 98
              · rw [if_pos c18] at H
                have c18b0 : (t146 == 98) = true := beq_iff_eq.mpr c18
                have c18b1 : (t146 != 98) = false := bne_eq_false_iff_eq.mpr c18
                clear c18
                by_cases c19 : t164 = true
                · subst c19
                  have H1 : (if t148 = 0 then (if t153 = 20 then (if t157 = 255 then (if t158 = 0 then (if t160 = 20 then ((label_End.f (⟨#[98]⟩ : ByteArray)).bind fun t169 => (some (t169.toList == ([98, 125] : List UInt8)))) else (none)) else (none)) else (none)) else (none)) else (none)) = some r := by rw [if_pos rfl] at H; exact H
                  clear H
                  have H := H1
                  clear H1
                  by_cases c20 : t148 = 0
                  · rw [if_pos c20] at H
                    have c20b0 : (t148 == 0) = true := beq_iff_eq.mpr c20
                    have c20b1 : (t148 != 0) = false := bne_eq_false_iff_eq.mpr c20
                    clear c20
                    by_cases c21 : t153 = 20
                    · rw [if_pos c21] at H
                      have c21b0 : (t153 == 20) = true := beq_iff_eq.mpr c21
                      have c21b1 : (t153 != 20) = false := bne_eq_false_iff_eq.mpr c21
                      clear c21
                      by_cases c22 : t157 = 255
                      · rw [if_pos c22] at H
                        have c22b0 : (t157 == 255) = true := beq_iff_eq.mpr c22
                        have c22b1 : (t157 != 255) = false := bne_eq_false_iff_eq.mpr c22
                        clear c22
                        by_cases c23 : t158 = 0
                        · rw [if_pos c23] at H
                          have c23b0 : (t158 == 0) = true := beq_iff_eq.mpr c23
                          have c23b1 : (t158 != 0) = false := bne_eq_false_iff_eq.mpr c23
                          clear c23
                          by_cases c24 : t160 = 20
                          · rw [if_pos c24] at H
                            have c24b0 : (t160 == 20) = true := beq_iff_eq.mpr c24
                            have c24b1 : (t160 != 20) = false := bne_eq_false_iff_eq.mpr c24
                            clear c24
                            replace H := Option.bind_eq_some_iff.mp H
                            obtain ⟨t169, A250, H⟩ := H
                            replace H : (some (t169.toList == ([98, 125] : List UInt8))) = some r := H
                            have A25 := Aside0.mk A250
                            clear A250
                            obtain rfl := Option.some.inj H
                            go_enter Tryd.func9, Tryd.ntmps9
                            go_wp2_with (first | ((with_reducible refine gate_dst (N := 15) rfl ?_); refine Kd.R_lit Kd.string _ 9 ?hg (N := 15) ?hd (xs := ([(⟨#[97, 110, 110]⟩ : ByteArray), (⟨#[85, 83, 68]⟩ : ByteArray)] : List ByteArray)) (inner := [.string (⟨#[97, 110, 110]⟩ : ByteArray), .string (⟨#[85, 83, 68]⟩ : ByteArray)]) (ok := fun _ => True) (okp := fun _ => True) ?hr ?hp (fun _ hk => hk) trivial (Below.refl _ _) (Nat.le_refl _) (by simp) ?_; (case hd => rfl); (case hg => rfl); (case hr => first | (go_simp; done) | (go_simp; rfl)); (case hp => exact (Reps.one (show Kd.M Kd.string _ _ _ (⟨#[97, 110, 110]⟩ : ByteArray) [.string (⟨#[97, 110, 110]⟩ : ByteArray)] from rfl) (Reps.one (show Kd.M Kd.string _ _ _ (⟨#[85, 83, 68]⟩ : ByteArray) [.string (⟨#[85, 83, 68]⟩ : ByteArray)] from rfl) (Reps.none _ _)))); intro v142 w26 ho27 hb hg_ hnew_; clear hg_ hnew_; (first | rw [← Ny141.out] at ho27 | (simp only [Int.reduceToNat] at ho27; rw [← Ny141.out] at ho27)); have n0_ := Aside0.mk (Kd.R_lower ho27 (below_size (by repeat (first | (with_reducible first | exact HB.out | apply below_alloc | apply pw_below_drewN | apply below_drew1) | exact HB.out)))); have n1_ := Aside0.mk (below_step (by repeat (first | (with_reducible first | exact HB.out | apply below_alloc | apply pw_below_drewN | apply below_drew1) | exact HB.out)) hb); clear HB; have HO143 := n0_; have HB := n1_; clear n0_ n1_; clear hb ho27; obtain ⟨Ao28, co28, eo28⟩ := Kd.R_slice HO143.out; subst eo28) | ((with_reducible refine gate_callee (f := 22) rfl ?_); refine goesL_ (some 16) rfl rfl Tryd.func22 (by kernel_rfl) rfl #[.int .u8 98, .slice Ao28 y141.length co28] rfl (by (try simp only [List.map_toArray, List.map_cons, List.map_nil]); first | done | rfl | (simp only [List.length_drop, List.length_take]; rfl)) ?_; (with_reducible refine (label_Key.calls k 98 _ _ y141 t144 t145 _ ?side1 ?side2 ?side3 A1.out).mono ?_); (case side1 => exact Glob.below HG.out (by repeat (first | (with_reducible first | exact HB.out | apply below_alloc | apply pw_below_drewN | apply below_drew1) | exact HB.out))); (case side2 => repeat (first | exact (Kd.R_reads' HO143.out).2.2 | (with_reducible refine Kd.C_alloc ?_ _) | (with_reducible refine Kd.C_drewN ?_ _) | (with_reducible refine Kd.C_drew ?_))); (case side3 => exact (Kd.R_reads' HO143.out).2.1); rintro e w29 ⟨rfl, hb⟩; refine ⟨_, rfl, ?_⟩; have n0_ := Aside0.mk (Kd.R_below (by (with_reducible repeat (first | apply Kd.R_alloc | apply Kd.R_drewN | apply Kd.R_drew)); exact HO143.out) hb); have n1_ := Aside0.mk (below_step (by repeat (first | (with_reducible first | exact HB.out | apply below_alloc | apply pw_below_drewN | apply below_drew1) | exact HB.out)) hb); clear HO143; clear HB; have HO143 := n0_; have HB := n1_; clear n0_ n1_; (try clear hb); (try clear hb2); (try clear hk); (try clear hi)) | ((with_reducible refine gate_callee (f := 24) rfl ?_); refine goesL_ (some 21) rfl rfl Tryd.func24 (by kernel_rfl) rfl #[.string t144] rfl (by (try simp only [List.map_toArray, List.map_cons, List.map_nil]); first | done | rfl | (simp only [List.length_drop, List.length_take]; rfl)) ?_; (with_reducible refine (label_Split.calls k t144 t146 t147 t148 _ ?side1 A2.out).mono ?_); (case side1 => exact Glob.below HG.out (by repeat (first | (with_reducible first | exact HB.out | apply below_alloc | apply pw_below_drewN | apply below_drew1) | exact HB.out))); rintro e w30 ⟨v149, rfl, ho0, hb⟩; refine ⟨_, rfl, ?_⟩; have n0_ := Aside0.mk (Kd.R_elder' (by (with_reducible repeat (first | apply Kd.R_alloc | apply Kd.R_drewN | apply Kd.R_drew)); exact HO143.out) (Kd.Q_base ho0) hb); have n1_ := Aside0.mk (Kd.Q_lower (Kd.Q_new' ho0 (Kd.R_lt (by (with_reducible repeat (first | apply Kd.R_alloc | apply Kd.R_drewN | apply Kd.R_drew)); exact HO143.out))) (below_size (by repeat (first | (with_reducible first | exact HB.out | apply below_alloc | apply pw_below_drewN | apply below_drew1) | exact HB.out)))); have n2_ := Aside0.mk (below_step (by repeat (first | (with_reducible first | exact HB.out | apply below_alloc | apply pw_below_drewN | apply below_drew1) | exact HB.out)) hb); clear HO143; clear HB; have HO143 := n0_; have HO150 := n1_; have HB := n2_; clear n0_ n1_ n2_; (try clear hb); (try clear hb2); (try clear hk); (try clear hi); (try clear ho0)) | ((with_reducible refine gate_callee (f := 24) rfl ?_); refine goesL_ (some 26) rfl rfl Tryd.func24 (by kernel_rfl) rfl #[.string (⟨#[98, 124]⟩ : ByteArray)] rfl (by (try simp only [List.map_toArray, List.map_cons, List.map_nil]); first | done | rfl | (simp only [List.length_drop, List.length_take]; rfl)) ?_; (with_reducible refine (label_Split.calls k (⟨#[98, 124]⟩ : ByteArray) t151 t152 t153 _ ?side1 A3.out).mono ?_); (case side1 => exact Glob.below HG.out (by repeat (first | (with_reducible first | exact HB.out | apply below_alloc | apply pw_below_drewN | apply below_drew1) | exact HB.out))); rintro e w31 ⟨v154, rfl, ho0, hb⟩; refine ⟨_, rfl, ?_⟩; have n0_ := Aside0.mk (Kd.R_elder' (by (with_reducible repeat (first | apply Kd.R_alloc | apply Kd.R_drewN | apply Kd.R_drew)); exact HO143.out) (Kd.Q_base ho0) hb); have n1_ := Aside0.mk (Kd.Q_elder' (by (with_reducible repeat (first | apply Kd.Q_alloc | apply Kd.Q_drewN | apply Kd.Q_drew)); exact HO150.out) (Kd.Q_base ho0) hb); have n2_ := Aside0.mk (Kd.Q_lower (Kd.Q_new' (Kd.Q_new' ho0 (Kd.R_lt (by (with_reducible repeat (first | apply Kd.R_alloc | apply Kd.R_drewN | apply Kd.R_drew)); exact HO143.out))) (Kd.Q_lt (by (with_reducible repeat (first | apply Kd.Q_alloc | apply Kd.Q_drewN | apply Kd.Q_drew)); exact HO150.out))) (below_size (by repeat (first | (with_reducible first | exact HB.out | apply below_alloc | apply pw_below_drewN | apply below_drew1) | exact HB.out)))); have n3_ := Aside0.mk (below_step (by repeat (first | (with_reducible first | exact HB.out | apply below_alloc | apply pw_below_drewN | apply below_drew1) | exact HB.out)) hb); clear HO143; clear HO150; clear HB; have HO143 := n0_; have HO150 := n1_; have HO155 := n2_; have HB := n3_; clear n0_ n1_ n2_ n3_; (try clear hb); (try clear hb2); (try clear hk); (try clear hi); (try clear ho0)) | ((with_reducible refine gate_callee (f := 18) rfl ?_); refine goesL_ (some 31) rfl rfl Tryd.func18 (by kernel_rfl) rfl #[.int .u64 255] rfl (by (try simp only [List.map_toArray, List.map_cons, List.map_nil]); first | done | rfl | (simp only [List.length_drop, List.length_take]; rfl)) ?_; (with_reducible refine (label_Digits.calls 255 t156 _ ?side1 A4.out).mono ?_); (case side1 => exact Glob.below HG.out (by repeat (first | (with_reducible first | exact HB.out | apply below_alloc | apply pw_below_drewN | apply below_drew1) | exact HB.out))); rintro e w32 ⟨rfl, hb⟩; refine ⟨_, rfl, ?_⟩; have n0_ := Aside0.mk (Kd.R_below (by (with_reducible repeat (first | apply Kd.R_alloc | apply Kd.R_drewN | apply Kd.R_drew)); exact HO143.out) hb); have n1_ := Aside0.mk (Kd.Q_below (by (with_reducible repeat (first | apply Kd.Q_alloc | apply Kd.Q_drewN | apply Kd.Q_drew)); exact HO150.out) hb); have n2_ := Aside0.mk (Kd.Q_below (by (with_reducible repeat (first | apply Kd.Q_alloc | apply Kd.Q_drewN | apply Kd.Q_drew)); exact HO155.out) hb); have n3_ := Aside0.mk (below_step (by repeat (first | (with_reducible first | exact HB.out | apply below_alloc | apply pw_below_drewN | apply below_drew1) | exact HB.out)) hb); clear HO143; clear HO150; clear HO155; clear HB; have HO143 := n0_; have HO150 := n1_; have HO155 := n2_; have HB := n3_; clear n0_ n1_ n2_ n3_; (try clear hb); (try clear hb2); (try clear hk); (try clear hi)) | ((with_reducible refine gate_callee (f := 10) rfl ?_); refine goesL_ (some 32) rfl rfl Tryd.func10 (by kernel_rfl) rfl #[.string t156] rfl (by (try simp only [List.map_toArray, List.map_cons, List.map_nil]); first | done | rfl | (simp only [List.length_drop, List.length_take]; rfl)) ?_; (with_reducible refine (label_Number.calls t156 t157 t158 _ ?side1 A5.out).mono ?_); (case side1 => exact Glob.below HG.out (by repeat (first | (with_reducible first | exact HB.out | apply below_alloc | apply pw_below_drewN | apply below_drew1) | exact HB.out))); rintro e w33 ⟨rfl, hb⟩; refine ⟨_, rfl, ?_⟩; have n0_ := Aside0.mk (Kd.R_below (by (with_reducible repeat (first | apply Kd.R_alloc | apply Kd.R_drewN | apply Kd.R_drew)); exact HO143.out) hb); have n1_ := Aside0.mk (Kd.Q_below (by (with_reducible repeat (first | apply Kd.Q_alloc | apply Kd.Q_drewN | apply Kd.Q_drew)); exact HO150.out) hb); have n2_ := Aside0.mk (Kd.Q_below (by (with_reducible repeat (first | apply Kd.Q_alloc | apply Kd.Q_drewN | apply Kd.Q_drew)); exact HO155.out) hb); have n3_ := Aside0.mk (below_step (by repeat (first | (with_reducible first | exact HB.out | apply below_alloc | apply pw_below_drewN | apply below_drew1) | exact HB.out)) hb); clear HO143; clear HO150; clear HO155; clear HB; have HO143 := n0_; have HO150 := n1_; have HO155 := n2_; have HB := n3_; clear n0_ n1_ n2_ n3_; (try clear hb); (try clear hb2); (try clear hk); (try clear hi)) | ((with_reducible refine gate_callee (f := 10) rfl ?_); refine goesL_ (some 36) rfl rfl Tryd.func10 (by kernel_rfl) rfl #[.string (⟨#[102, 102]⟩ : ByteArray)] rfl (by (try simp only [List.map_toArray, List.map_cons, List.map_nil]); first | done | rfl | (simp only [List.length_drop, List.length_take]; rfl)) ?_; (with_reducible refine (label_Number.calls (⟨#[102, 102]⟩ : ByteArray) t159 t160 _ ?side1 A6.out).mono ?_); (case side1 => exact Glob.below HG.out (by repeat (first | (with_reducible first | exact HB.out | apply below_alloc | apply pw_below_drewN | apply below_drew1) | exact HB.out))); rintro e w34 ⟨rfl, hb⟩; refine ⟨_, rfl, ?_⟩; have n0_ := Aside0.mk (Kd.R_below (by (with_reducible repeat (first | apply Kd.R_alloc | apply Kd.R_drewN | apply Kd.R_drew)); exact HO143.out) hb); have n1_ := Aside0.mk (Kd.Q_below (by (with_reducible repeat (first | apply Kd.Q_alloc | apply Kd.Q_drewN | apply Kd.Q_drew)); exact HO150.out) hb); have n2_ := Aside0.mk (Kd.Q_below (by (with_reducible repeat (first | apply Kd.Q_alloc | apply Kd.Q_drewN | apply Kd.Q_drew)); exact HO155.out) hb); have n3_ := Aside0.mk (below_step (by repeat (first | (with_reducible first | exact HB.out | apply below_alloc | apply pw_below_drewN | apply below_drew1) | exact HB.out)) hb); clear HO143; clear HO150; clear HO155; clear HB; have HO143 := n0_; have HO150 := n1_; have HO155 := n2_; have HB := n3_; clear n0_ n1_ n2_ n3_; (try clear hb); (try clear hb2); (try clear hk); (try clear hi)) | ((with_reducible refine gate_dst (N := 40) rfl ?_); refine Kd.R_lit Kd.string _ 9 ?hg (N := 40) ?hd (xs := ([(⟨#[97, 110, 110]⟩ : ByteArray), (⟨#[85, 83, 68]⟩ : ByteArray)] : List ByteArray)) (inner := [.string (⟨#[97, 110, 110]⟩ : ByteArray), .string (⟨#[85, 83, 68]⟩ : ByteArray)]) (ok := fun _ => True) (okp := fun _ => True) ?hr ?hp (fun _ hk => hk) trivial (Below.refl _ _) (Nat.le_refl _) (by simp) ?_; (case hd => rfl); (case hg => rfl); (case hr => first | (go_simp; done) | (go_simp; rfl)); (case hp => exact (Reps.one (show Kd.M Kd.string _ _ _ (⟨#[97, 110, 110]⟩ : ByteArray) [.string (⟨#[97, 110, 110]⟩ : ByteArray)] from rfl) (Reps.one (show Kd.M Kd.string _ _ _ (⟨#[85, 83, 68]⟩ : ByteArray) [.string (⟨#[85, 83, 68]⟩ : ByteArray)] from rfl) (Reps.none _ _)))); intro v162 w35 ho36 hb hg_ hnew_; clear hg_ hnew_; (first | rw [← Ny161.out] at ho36 | (simp only [Int.reduceToNat] at ho36; rw [← Ny161.out] at ho36)); have n0_ := Aside0.mk (Kd.R_elder' (by (with_reducible repeat (first | apply Kd.R_alloc | apply Kd.R_drewN | apply Kd.R_drew)); exact HO143.out) (Kd.R_base ho36) hb); have n1_ := Aside0.mk (Kd.Q_elder' (by (with_reducible repeat (first | apply Kd.Q_alloc | apply Kd.Q_drewN | apply Kd.Q_drew)); exact HO150.out) (Kd.R_base ho36) hb); have n2_ := Aside0.mk (Kd.Q_elder' (by (with_reducible repeat (first | apply Kd.Q_alloc | apply Kd.Q_drewN | apply Kd.Q_drew)); exact HO155.out) (Kd.R_base ho36) hb); have n3_ := Aside0.mk (Kd.R_lower (Kd.R_new' (Kd.R_new' (Kd.R_new' ho36 (Kd.R_lt (by (with_reducible repeat (first | apply Kd.R_alloc | apply Kd.R_drewN | apply Kd.R_drew)); exact HO143.out))) (Kd.Q_lt (by (with_reducible repeat (first | apply Kd.Q_alloc | apply Kd.Q_drewN | apply Kd.Q_drew)); exact HO150.out))) (Kd.Q_lt (by (with_reducible repeat (first | apply Kd.Q_alloc | apply Kd.Q_drewN | apply Kd.Q_drew)); exact HO155.out))) (below_size (by repeat (first | (with_reducible first | exact HB.out | apply below_alloc | apply pw_below_drewN | apply below_drew1) | exact HB.out)))); have n4_ := Aside0.mk (below_step (by repeat (first | (with_reducible first | exact HB.out | apply below_alloc | apply pw_below_drewN | apply below_drew1) | exact HB.out)) hb); clear HO143; clear HO150; clear HO155; clear HB; have HO143 := n0_; have HO150 := n1_; have HO155 := n2_; have HO163 := n3_; have HB := n4_; clear n0_ n1_ n2_ n3_ n4_; clear hb ho36; obtain ⟨Ao37, co37, eo37, _⟩ := Kd.Q_slice HO150.out; subst eo37; obtain ⟨Ao38, co38, eo38⟩ := Kd.R_slice HO163.out; subst eo38) | ((with_reducible refine gate_callee (f := 26) rfl ?_); refine goesL_ (some 41) rfl rfl Tryd.func26 (by kernel_rfl) rfl #[.slice Ao37 t147.length co37, .slice Ao38 y161.length co38] rfl (by (try simp only [List.map_toArray, List.map_cons, List.map_nil]); first | done | rfl | (simp only [List.length_drop, List.length_take]; rfl)) ?_; (with_reducible refine (cambistref02_Same.calls k _ _ t147 _ _ y161 true _ ?side1 ?side2 ?side3 ?side4 ?side5 A7.out).mono ?_); (case side1 => exact Glob.below HG.out (by repeat (first | (with_reducible first | exact HB.out | apply below_alloc | apply pw_below_drewN | apply below_drew1) | exact HB.out))); (case side2 => repeat (first | exact (Kd.Q_reads' HO150.out).2.2 | (with_reducible refine Kd.C_alloc ?_ _) | (with_reducible refine Kd.C_drewN ?_ _) | (with_reducible refine Kd.C_drew ?_))); (case side3 => exact (Kd.Q_reads' HO150.out).2.1); (case side4 => repeat (first | exact (Kd.R_reads' HO163.out).2.2 | (with_reducible refine Kd.C_alloc ?_ _) | (with_reducible refine Kd.C_drewN ?_ _) | (with_reducible refine Kd.C_drew ?_))); (case side5 => exact (Kd.R_reads' HO163.out).2.1); rintro e w' ⟨rfl, ⟨nd, rfl⟩⟩; refine ⟨_, rfl, ?_⟩) | ((with_reducible refine gate_callee (f := 12) rfl ?_); refine goesL_ (some 42) rfl rfl Tryd.func12 (by kernel_rfl) rfl #[.string (⟨#[97, 110, 110, 55]⟩ : ByteArray)] rfl (by (try simp only [List.map_toArray, List.map_cons, List.map_nil]); first | done | rfl | (simp only [List.length_drop, List.length_take]; rfl)) ?_; (with_reducible refine (label_Who.calls (⟨#[97, 110, 110, 55]⟩ : ByteArray) true _ ?side1 A8.out).mono ?_); (case side1 => exact Glob.below HG.out (by repeat (first | (with_reducible first | exact HB.out | apply below_alloc | apply pw_below_drewN | apply below_drew1) | exact HB.out))); rintro e w39 ⟨rfl, hb⟩; refine ⟨_, rfl, ?_⟩; have n0_ := Aside0.mk (Kd.R_below (by (with_reducible repeat (first | apply Kd.R_alloc | apply Kd.R_drewN | apply Kd.R_drew)); exact HO143.out) hb); have n1_ := Aside0.mk (Kd.Q_below (by (with_reducible repeat (first | apply Kd.Q_alloc | apply Kd.Q_drewN | apply Kd.Q_drew)); exact HO150.out) hb); have n2_ := Aside0.mk (Kd.Q_below (by (with_reducible repeat (first | apply Kd.Q_alloc | apply Kd.Q_drewN | apply Kd.Q_drew)); exact HO155.out) hb); have n3_ := Aside0.mk (Kd.R_below (by (with_reducible repeat (first | apply Kd.R_alloc | apply Kd.R_drewN | apply Kd.R_drew)); exact HO163.out) hb); have n4_ := Aside0.mk (below_step (by repeat (first | (with_reducible first | exact HB.out | apply below_alloc | apply pw_below_drewN | apply below_drew1) | exact HB.out)) hb); clear HO143; clear HO150; clear HO155; clear HO163; clear HB; have HO143 := n0_; have HO150 := n1_; have HO155 := n2_; have HO163 := n3_; have HB := n4_; clear n0_ n1_ n2_ n3_ n4_; (try clear hb); (try clear hb2); (try clear hk); (try clear hi)) | (go_at_call 12; (with_reducible refine (label_Who.calls (⟨#[55, 97, 110, 110]⟩ : ByteArray) false _ ?side1 A10.out).mono ?_); (case side1 => exact Glob.below HG.out (by repeat (first | (with_reducible first | exact HB.out | apply below_alloc | apply pw_below_drewN | apply below_drew1) | exact HB.out))); rintro e w40 ⟨rfl, hb⟩; have n0_ := Aside0.mk (Kd.R_below (by (with_reducible repeat (first | apply Kd.R_alloc | apply Kd.R_drewN | apply Kd.R_drew)); exact HO143.out) hb); have n1_ := Aside0.mk (Kd.Q_below (by (with_reducible repeat (first | apply Kd.Q_alloc | apply Kd.Q_drewN | apply Kd.Q_drew)); exact HO150.out) hb); have n2_ := Aside0.mk (Kd.Q_below (by (with_reducible repeat (first | apply Kd.Q_alloc | apply Kd.Q_drewN | apply Kd.Q_drew)); exact HO155.out) hb); have n3_ := Aside0.mk (Kd.R_below (by (with_reducible repeat (first | apply Kd.R_alloc | apply Kd.R_drewN | apply Kd.R_drew)); exact HO163.out) hb); have n4_ := Aside0.mk (below_step (by repeat (first | (with_reducible first | exact HB.out | apply below_alloc | apply pw_below_drewN | apply below_drew1) | exact HB.out)) hb); clear HO143; clear HO150; clear HO155; clear HO163; clear HB; have HO143 := n0_; have HO150 := n1_; have HO155 := n2_; have HO163 := n3_; have HB := n4_; clear n0_ n1_ n2_ n3_ n4_; (try clear hb); (try clear hb2); (try clear hk); (try clear hi)) | (go_at_call 14; (with_reducible refine (label_Asset.calls (⟨#[85, 83, 68]⟩ : ByteArray) true _ ?side1 A12.out).mono ?_); (case side1 => exact Glob.below HG.out (by repeat (first | (with_reducible first | exact HB.out | apply below_alloc | apply pw_below_drewN | apply below_drew1) | exact HB.out))); rintro e w41 ⟨rfl, hb⟩; have n0_ := Aside0.mk (Kd.R_below (by (with_reducible repeat (first | apply Kd.R_alloc | apply Kd.R_drewN | apply Kd.R_drew)); exact HO143.out) hb); have n1_ := Aside0.mk (Kd.Q_below (by (with_reducible repeat (first | apply Kd.Q_alloc | apply Kd.Q_drewN | apply Kd.Q_drew)); exact HO150.out) hb); have n2_ := Aside0.mk (Kd.Q_below (by (with_reducible repeat (first | apply Kd.Q_alloc | apply Kd.Q_drewN | apply Kd.Q_drew)); exact HO155.out) hb); have n3_ := Aside0.mk (Kd.R_below (by (with_reducible repeat (first | apply Kd.R_alloc | apply Kd.R_drewN | apply Kd.R_drew)); exact HO163.out) hb); have n4_ := Aside0.mk (below_step (by repeat (first | (with_reducible first | exact HB.out | apply below_alloc | apply pw_below_drewN | apply below_drew1) | exact HB.out)) hb); clear HO143; clear HO150; clear HO155; clear HO163; clear HB; have HO143 := n0_; have HO150 := n1_; have HO155 := n2_; have HO163 := n3_; have HB := n4_; clear n0_ n1_ n2_ n3_ n4_; (try clear hb); (try clear hb2); (try clear hk); (try clear hi)) | (go_at_call 16; (with_reducible refine (label_Word.calls (⟨#[82, 45, 49]⟩ : ByteArray) true _ ?side1 A14.out).mono ?_); (case side1 => exact Glob.below HG.out (by repeat (first | (with_reducible first | exact HB.out | apply below_alloc | apply pw_below_drewN | apply below_drew1) | exact HB.out))); rintro e w42 ⟨rfl, hb⟩; have n0_ := Aside0.mk (Kd.R_below (by (with_reducible repeat (first | apply Kd.R_alloc | apply Kd.R_drewN | apply Kd.R_drew)); exact HO143.out) hb); have n1_ := Aside0.mk (Kd.Q_below (by (with_reducible repeat (first | apply Kd.Q_alloc | apply Kd.Q_drewN | apply Kd.Q_drew)); exact HO150.out) hb); have n2_ := Aside0.mk (Kd.Q_below (by (with_reducible repeat (first | apply Kd.Q_alloc | apply Kd.Q_drewN | apply Kd.Q_drew)); exact HO155.out) hb); have n3_ := Aside0.mk (Kd.R_below (by (with_reducible repeat (first | apply Kd.R_alloc | apply Kd.R_drewN | apply Kd.R_drew)); exact HO163.out) hb); have n4_ := Aside0.mk (below_step (by repeat (first | (with_reducible first | exact HB.out | apply below_alloc | apply pw_below_drewN | apply below_drew1) | exact HB.out)) hb); clear HO143; clear HO150; clear HO155; clear HO163; clear HB; have HO143 := n0_; have HO150 := n1_; have HO155 := n2_; have HO163 := n3_; have HB := n4_; clear n0_ n1_ n2_ n3_ n4_; (try clear hb); (try clear hb2); (try clear hk); (try clear hi)) | (go_at_call 20; (with_reducible refine (label_End.calls (⟨#[98]⟩ : ByteArray) t169 _ ?side1 A25.out).mono ?_); (case side1 => exact Glob.below HG.out (by repeat (first | (with_reducible first | exact HB.out | apply below_alloc | apply pw_below_drewN | apply below_drew1) | exact HB.out))); rintro e w' ⟨rfl, ⟨nd, rfl⟩⟩))
                            go_ret
                            exact ⟨by first | rfl | (simp [errW_none, errW_some] <;> rfl) | (simp [*, errW_none, errW_some] <;> rfl), by repeat (first | (with_reducible first | exact HB.out | apply below_alloc | apply pw_below_drewN | apply below_drew1) | exact HB.out)⟩
                          · rw [if_neg c24] at H
                            exact absurd H (by simp)
                        · rw [if_neg c23] at H
                          exact absurd H (by simp)
                      · rw [if_neg c22] at H
                        exact absurd H (by simp)
                    · rw [if_neg c21] at H
                      exact absurd H (by simp)
                  · rw [if_neg c20] at H
                    exact absurd H (by simp)
                · replace c19 := Bool.eq_false_iff.mpr c19
                  subst c19
                  have H1 : (none) = some r := by rw [if_neg (show ¬ (false = true) by decide)] at H; exact H
                  clear H
                  have H := H1
                  clear H1
                  exact absurd H (by simp)
              · rw [if_neg c18] at H
                exact absurd H (by simp)
            · rw [if_neg c17] at H
              exact absurd H (by simp)
          · rw [if_neg c16] at H
            exact absurd H (by simp)
        · replace c15 := Bool.eq_false_iff.mpr c15
          subst c15
          have H1 : (none) = some r := by rw [if_neg (show ¬ (false = true) by decide)] at H; exact H
          clear H
          have H := H1
          clear H1
          exact absurd H (by simp)
      · replace c13 := Bool.eq_false_iff.mpr c13
        subst c13
        have H1 : (none) = some r := by rw [if_neg (show ¬ (false = true) by decide)] at H; exact H
        clear H
        have H := H1
        clear H1
        exact absurd H (by simp)
  · replace c9 := Bool.eq_false_iff.mpr c9
    subst c9
    have H1 : (none) = some r := by rw [if_neg (show ¬ (false = true) by decide)] at H; exact H
    clear H
    have H := H1
    clear H1
    exact absurd H (by simp)

end Go.Proofs.YtalepbkdakjhdaaDoor.P
