-- Laid by wip/tools/cprint.py of this claim's own repo (over the kit's print).
import Derived.Test.YtjlifcbddednaaaGreatDoorSq
import Derived.Test.YtjlifcbddednaaaGreatDoorPx0
namespace Go.Proofs.YtjlifcbddednaaaGreatDoor.P
open Go.RowKit Go.Proofs.YtjlifcbddednaaaGreatDoor.E Go.Proofs.YtjlifcbddednaaaGreatDoorW.PrintWords Go.Proofs.YtjlifcbddednaaaGreatDoorW.PrintLast
set_option linter.unusedVariables false
set_option linter.unusedSimpArgs false

/-! ### cambistref12_Parts: function 31 -/
def cambistref12_Parts.l0 : Nat → ByteArray → List ByteArray → ByteArray → Int → Option (List ByteArray)
 | 0, _, _, _, _ => none
 | k + 1, x0, x3, x4, x5 => if x5 < (x0.size : Int) then (if 0 ≤ x5 then (if (bt x0 x5) = 124 then (if x3.length < 8796093022208 then (cambistref12_Parts.l0 k x0 (x3 ++ [x4]) (⟨#[]⟩ : ByteArray) (wrap64 (x5 + 1))) else (none)) else (if x5 ≤ (wrap64 (x5 + 1)) then (if (wrap64 (x5 + 1)) ≤ (x0.size : Int) then (if x4.size + (x0.extract (x5 : Int).toNat ((wrap64 (x5 + 1)) : Int).toNat).size ≤ 9223372036854775807 then (cambistref12_Parts.l0 k x0 x3 (x4 ++ (x0.extract (x5 : Int).toNat ((wrap64 (x5 + 1)) : Int).toNat)) (wrap64 (x5 + 1))) else (none)) else (none)) else (none))) else (none)) else (if x3.length < 8796093022208 then (some (x3 ++ [x4])) else (none))
def cambistref12_Parts.f (k : Nat) (a0 : ByteArray) : Option (List ByteArray) := cambistref12_Parts.l0 k a0 ([] : List ByteArray) (⟨#[]⟩ : ByteArray) 0
theorem cambistref12_Parts.mono_l : ∀ k, (∀ y0 y1 y2 y3, LeO (cambistref12_Parts.l0 k y0 y1 y2 y3) (cambistref12_Parts.l0 (k + 1) y0 y1 y2 y3))
 | 0 => fun _ _ _ _ r h => by simp [cambistref12_Parts.l0] at h
 | k + 1 => by
  have ih0 := cambistref12_Parts.mono_l k
  ·intro y0 y1 y2 y3
   unfold cambistref12_Parts.l0
   repeat' first
   | (with_reducible exact ih0 _ _ _ _)
   | (with_reducible first | exact LeO.refl _ | exact LeO.none _ | refine LeO.ite ?_ ?_ | refine LeO.bind ?_ fun _ => ?_)
   | exact ih0 _ _ _ _
theorem cambistref12_Parts.mono : ∀ a0 k, LeO (cambistref12_Parts.f k a0) (cambistref12_Parts.f (k + 1) a0) := by
 intro a0 k
 have ih0 := cambistref12_Parts.mono_l k
 unfold cambistref12_Parts.f
 repeat' first
   | (with_reducible exact ih0 _ _ _ _)
   | (with_reducible first | exact LeO.refl _ | exact LeO.none _ | refine LeO.ite ?_ ?_ | refine LeO.bind ?_ fun _ => ?_)
   | exact ih0 _ _ _ _
set_option maxHeartbeats 8000000 in
set_option maxRecDepth 100000 in
theorem cambistref12_Parts.calls (k : Nat) (a0 : ByteArray) (r : List ByteArray) (w : World) (hG : Glob w) (h : cambistref12_Parts.f k a0 = some r) :
  Calls Tryz.prog 31 #[.string a0] w fun e w' => ∃ v0_ : Value, e = .returned (v0_) ∧ Kd.R Kd.string 9 w' w.heap.size (fun _ => True) v0_ r ∧ Below w.heap.size w w' := by
 have HG := a_ hG
 clear hG
 have HB := a_ (Below.refl w.heap.size w)
 have H : (cambistref12_Parts.l0 k a0 ([] : List ByteArray) (⟨#[]⟩ : ByteArray) 0) = some r := h
 clear h
 have H' := a_ H
 clear H
 go_enter Tryz.func31, Tryz.ntmps31
 go_wp2
 go_loopg [3, 4, 5] k (fun kq v3 v4 v5 w' => ∃ (x3_1 : List ByteArray) (x4_1 : ByteArray) (x5_1 : Int), v4 = .string x4_1 ∧ v5 = .int .i64 x5_1 ∧ Aside0 (cambistref12_Parts.l0 kq a0 x3_1 x4_1 x5_1 = some r) ∧ Aside0 (kq ≤ k) ∧ Aside0 (Kd.R Kd.string 9 w' w.heap.size (fun _ => True) v3 x3_1) ∧ Aside0 (Below w.heap.size w w'))
 case atStart => exact ⟨(([] : List ByteArray)), ((⟨#[]⟩ : ByteArray)), (0), z71_, z71_, H', ⟨Nat.le_refl _⟩, ⟨z18_⟩, ⟨z33_⟩⟩
 case round =>
  clear H'
  obtain ⟨x3_1, x4_1, x5_1, rfl, rfl, HA, HK1, HO_3, HB⟩ := hrel
  cases gk with
  | zero => exact absurd HA.out (by simp [cambistref12_Parts.l0])
  | succ k1 =>
   have H := HA.out
   clear HA
   simp only [cambistref12_Parts.l0] at H
   by_cases c2 : x5_1 < (a0.size : Int)
   ·rw [if_pos c2] at H
    have c2b0 : decide (x5_1 < (a0.size : Int)) = true := decide_eq_true c2
    clear c2
    by_cases c3 : 0 ≤ x5_1
    ·rw [if_pos c3] at H
     have c3b0 : decide (0 ≤ x5_1) = true := decide_eq_true c3
     clear c3
     by_cases c5 : (bt a0 x5_1) = 124
     ·rw [if_pos c5] at H
      have c5b0 : ((bt a0 x5_1) == 124) = true := beq_iff_eq.mpr c5
      have c5b1 : ((bt a0 x5_1) != 124) = false := bne_eq_false_iff_eq.mpr c5
      clear c5
      by_cases c6 : x3_1.length < 8796093022208
      ·rw [if_pos c6] at H
       have LMc6 := a_ c6
       clear c6
       obtain ⟨y210, hy210⟩ : ∃ y_ : List ByteArray, y_ = (x3_1 ++ [x4_1]) := ⟨_, rfl⟩
       replace H : (cambistref12_Parts.l0 k1 a0 y210 (⟨#[]⟩ : ByteArray) (wrap64 (x5_1 + 1))) = some r := by first | (rw [hy210]; with_reducible exact H) | (have H2_ := (Option.bind_some _ _).symm.trans H; rw [hy210]; with_reducible exact H2_) | (have H2_ := (Option.bind_some _ _).symm.trans H; with_reducible exact H2_) | with_reducible exact H | (rw [hy210]; exact H) | exact H
       have Ny210 := a_ hy210
       clear hy210
       have H' := a_ H
       clear H
       have p4 : 0 ≤ (x5_1 : Int) := of_decide_eq_true z70_
       have q4 : x5_1 < (a0.size : Int) := of_decide_eq_true z70_
       have hx4 := bt_at a0 x5_1
       replace p4 := eq_true p4
       replace q4 := eq_true q4
       go_wp2_with (first | ((with_reducible refine gate_builtin (b := .append) (xs := #[.tmp 16, .tmp 18]) rfl ?_); at_builtin; refine Kd.R_append Kd.string (w0 := w) w.heap.size rfl (.tmp 16) (.tmp 18) 56 9 (.string ⟨#[]⟩) 16 rfl Tryz.underlying56 info9 rfl (by decide) (by omega) u3 x3_1 x4_1 [.string x4_1] (fun _ => True) (fun _ => False) rfl rfl ?aP (fun _ hk => hk.elim) ?aF ?aO ?aB ?aS ?aL ?_; (case aP => exact rfl); (case aB => exact z33_); (case aF => exact (fun _ _ => trivial)); (case aO => exact z43_); (case aS => exact (below_size z33_)); (case aL => have := LMc6.out; omega); intro v211 w7 ho hb hg hat; rw [← Ny210.out] at ho; have n0_ := a_ (hb); have n1_ := a_ (ho); clear HB; clear HO_3; have HB := n0_; have HO212 := n1_; clear n0_ n1_; clear ho hb hg hat))
       go_roundg k1
       case measure => have := HK1.out; omega
       case rel => exact ⟨(y210), ((⟨#[]⟩ : ByteArray)), (wrap64 (x5_1 + 1)), z71_, z71_, H', ⟨z73_⟩, ⟨by (with_reducible repeat (first | apply Kd.R_alloc | apply Kd.R_drewN | apply Kd.R_drew)); exact HO212.out⟩, ⟨z33_⟩⟩
      ·rw [if_neg c6] at H
       exact absurd H (by simp)
     ·rw [if_neg c5] at H
      have c5b0 : ((bt a0 x5_1) == 124) = false := beq_eq_false_iff_ne.mpr c5
      have c5b1 : ((bt a0 x5_1) != 124) = true := bne_iff_ne.mpr c5
      have c8b0 := eq_true (of_decide_eq_true z70_ : 0 ≤ x5_1)
      by_cases c9 : x5_1 ≤ (wrap64 (x5_1 + 1))
      ·rw [if_pos c9] at H
       have c9b0 := eq_true c9
       have c9b1 : decide (x5_1 ≤ (wrap64 (x5_1 + 1))) = true := decide_eq_true c9
       by_cases c10 : (wrap64 (x5_1 + 1)) ≤ (a0.size : Int)
       ·rw [if_pos c10] at H
        have c10b0 := eq_true c10
        have c10b1 : decide ((wrap64 (x5_1 + 1)) ≤ (a0.size : Int)) = true := decide_eq_true c10
        by_cases c11 : x4_1.size + (a0.extract (x5_1 : Int).toNat ((wrap64 (x5_1 + 1)) : Int).toNat).size ≤ 9223372036854775807
        ·rw [if_pos c11] at H
         have c11b0 := eq_true c11
         have c11b1 : decide (x4_1.size + (a0.extract (x5_1 : Int).toNat ((wrap64 (x5_1 + 1)) : Int).toNat).size ≤ 9223372036854775807) = true := decide_eq_true c11
         try have c11b2 : (9223372036854775807 < x4_1.size + (a0.extract (x5_1 : Int).toNat ((wrap64 (x5_1 + 1)) : Int).toNat).size) = False := eq_false (Nat.not_lt.2 c11)
         have H' := a_ H
         clear H
         have p4 : 0 ≤ (x5_1 : Int) := of_decide_eq_true z70_
         have q4 : x5_1 < (a0.size : Int) := of_decide_eq_true z70_
         have hx4 := bt_at a0 x5_1
         replace p4 := eq_true p4
         replace q4 := eq_true q4
         go_wp2
         go_roundg k1
         case measure => have := HK1.out; omega
         case rel => exact ⟨(x3_1), (x4_1 ++ (a0.extract (x5_1 : Int).toNat ((wrap64 (x5_1 + 1)) : Int).toNat)), (wrap64 (x5_1 + 1)), z71_, z71_, H', ⟨z73_⟩, ⟨z43_⟩, ⟨z33_⟩⟩
        ·rw [if_neg c11] at H
         exact absurd H (by simp)
       ·rw [if_neg c10] at H
        exact absurd H (by simp)
      ·rw [if_neg c9] at H
       exact absurd H (by simp)
    ·rw [if_neg c3] at H
     exact absurd H (by simp)
   ·rw [if_neg c2] at H
    have c2b0 : decide (x5_1 < (a0.size : Int)) = false := decide_eq_false c2
    clear c2
    by_cases c12 : x3_1.length < 8796093022208
    ·rw [if_pos c12] at H
     have LMc12 := a_ c12
     clear c12
     obtain ⟨y213, hy213⟩ : ∃ y_ : List ByteArray, y_ = (x3_1 ++ [x4_1]) := ⟨_, rfl⟩
     replace H : (some y213) = some r := by first | (rw [hy213]; with_reducible exact H) | (have H2_ := (Option.bind_some _ _).symm.trans H; rw [hy213]; with_reducible exact H2_) | (have H2_ := (Option.bind_some _ _).symm.trans H; with_reducible exact H2_) | with_reducible exact H | (rw [hy213]; exact H) | exact H
     have Ny213 := a_ hy213
     clear hy213
     obtain rfl := Option.some.inj H
     go_wp2_with (first | ((with_reducible refine gate_builtin (b := .append) (xs := #[.tmp 27, .tmp 29]) rfl ?_); at_builtin; refine Kd.R_append Kd.string (w0 := w) w.heap.size rfl (.tmp 27) (.tmp 29) 56 9 (.string ⟨#[]⟩) 16 rfl Tryz.underlying56 info9 rfl (by decide) (by omega) u3 x3_1 x4_1 [.string x4_1] (fun _ => True) (fun _ => False) rfl rfl ?aP (fun _ hk => hk.elim) ?aF ?aO ?aB ?aS ?aL ?_; (case aP => exact rfl); (case aB => exact z33_); (case aF => exact (fun _ _ => trivial)); (case aO => exact z43_); (case aS => exact (below_size z33_)); (case aL => have := LMc12.out; omega); intro v214 w13 ho hb hg hat; rw [← Ny213.out] at ho; have n0_ := a_ (hb); have n1_ := a_ (ho); clear HB; clear HO_3; have HB := n0_; have HO215 := n1_; clear n0_ n1_; clear ho hb hg hat))
     go_ret
     exact ⟨_, z64_, by (with_reducible repeat (first | apply Kd.R_alloc | apply Kd.R_drewN | apply Kd.R_drew)); exact HO215.out, z33_⟩
    ·rw [if_neg c12] at H
     exact absurd H (by simp)

/-! ### cambistref02_Digits: function 35 -/
def cambistref02_Digits.l0 : Nat → Int → ByteArray → Int → Option (ByteArray)
 | 0, _, _, _ => none
 | k + 1, x0, x3, x4 => if x4 ≥ 0 then (if 0 ≤ (IntKind.u64.wrap (wrap64 (4 * x4))) then (if 0 ≤ (Go.bits .and .u64 (shr .u64 x0 (IntKind.u64.wrap (wrap64 (4 * x4)))) 15) then (if (Go.bits .and .u64 (shr .u64 x0 (IntKind.u64.wrap (wrap64 (4 * x4)))) 15) < 16 then ((some (([bt (⟨#[48, 49, 50, 51, 52, 53, 54, 55, 56, 57, 97, 98, 99, 100, 101, 102]⟩ : ByteArray) (Go.bits .and .u64 (shr .u64 x0 (IntKind.u64.wrap (wrap64 (4 * x4)))) 15)] : List Int) : List Int)).bind fun y216 => (if x3.size + (strOfNums y216).size ≤ 9223372036854775807 then (cambistref02_Digits.l0 k x0 (x3 ++ (strOfNums y216)) (wrap64 (x4 - 1))) else (none))) else (none)) else (none)) else (none)) else (some x3)
def cambistref02_Digits.f (k : Nat) (a0 : Int) : Option (ByteArray) := cambistref02_Digits.l0 k a0 (⟨#[]⟩ : ByteArray) 15
theorem cambistref02_Digits.mono_l : ∀ k, (∀ y0 y1 y2, LeO (cambistref02_Digits.l0 k y0 y1 y2) (cambistref02_Digits.l0 (k + 1) y0 y1 y2))
 | 0 => fun _ _ _ r h => by simp [cambistref02_Digits.l0] at h
 | k + 1 => by
  have ih0 := cambistref02_Digits.mono_l k
  ·intro y0 y1 y2
   unfold cambistref02_Digits.l0
   repeat' first
   | (with_reducible exact ih0 _ _ _)
   | (with_reducible first | exact LeO.refl _ | exact LeO.none _ | refine LeO.ite ?_ ?_ | refine LeO.bind ?_ fun _ => ?_)
   | exact ih0 _ _ _
theorem cambistref02_Digits.mono : ∀ a0 k, LeO (cambistref02_Digits.f k a0) (cambistref02_Digits.f (k + 1) a0) := by
 intro a0 k
 have ih0 := cambistref02_Digits.mono_l k
 unfold cambistref02_Digits.f
 repeat' first
   | (with_reducible exact ih0 _ _ _)
   | (with_reducible first | exact LeO.refl _ | exact LeO.none _ | refine LeO.ite ?_ ?_ | refine LeO.bind ?_ fun _ => ?_)
   | exact ih0 _ _ _
set_option maxHeartbeats 8000000 in
set_option maxRecDepth 100000 in
theorem cambistref02_Digits.calls (k : Nat) (a0 : Int) (r : ByteArray) (w : World) (hG : Glob w) (h : cambistref02_Digits.f k a0 = some r) :
  Calls Tryz.prog 35 #[.int .u64 a0] w fun e w' => e = .returned (.string r) ∧ Below w.heap.size w w' := by
 have HG := a_ hG
 clear hG
 have HB := a_ (Below.refl w.heap.size w)
 have H : (cambistref02_Digits.l0 k a0 (⟨#[]⟩ : ByteArray) 15) = some r := h
 clear h
 have H' := a_ H
 clear H
 go_enter Tryz.func35, Tryz.ntmps35
 go_wp2
 go_loopg [3, 4] k (fun kq v3 v4 w' => ∃ (x3_1 : ByteArray) (x4_1 : Int), v3 = .string x3_1 ∧ v4 = .int .i64 x4_1 ∧ Aside0 (cambistref02_Digits.l0 kq a0 x3_1 x4_1 = some r) ∧ Aside0 (kq ≤ k) ∧ Aside0 (Below w.heap.size w w'))
 case atStart => exact ⟨((⟨#[]⟩ : ByteArray)), (15), z71_, z71_, H', ⟨Nat.le_refl _⟩, ⟨z33_⟩⟩
 case round =>
  clear H'
  obtain ⟨x3_1, x4_1, rfl, rfl, HA, HK1, HB⟩ := hrel
  cases gk with
  | zero => exact absurd HA.out (by simp [cambistref02_Digits.l0])
  | succ k1 =>
   have H := HA.out
   clear HA
   simp only [cambistref02_Digits.l0] at H
   by_cases c2 : x4_1 ≥ 0
   ·rw [if_pos c2] at H
    have c2b0 : decide (0 ≤ x4_1) = true := decide_eq_true c2
    clear c2
    obtain ⟨ji3, hji3⟩ : ∃ j_ : Int, (IntKind.u64.wrap (wrap64 (4 * x4_1))) = j_ := ⟨_, rfl⟩
    replace H : (if 0 ≤ (ji3) then (if 0 ≤ (Go.bits .and .u64 (shr .u64 a0 (ji3)) 15) then (if (Go.bits .and .u64 (shr .u64 a0 (ji3)) 15) < 16 then ((some (([bt (⟨#[48, 49, 50, 51, 52, 53, 54, 55, 56, 57, 97, 98, 99, 100, 101, 102]⟩ : ByteArray) (Go.bits .and .u64 (shr .u64 a0 (ji3)) 15)] : List Int) : List Int)).bind fun y216 => (if x3_1.size + (strOfNums y216).size ≤ 9223372036854775807 then (cambistref02_Digits.l0 k1 a0 (x3_1 ++ (strOfNums y216)) (wrap64 (x4_1 - 1))) else (none))) else (none)) else (none)) else (none)) = some r := by first | (rw [hji3] at H; exact H) | (simp only [hji3] at H ⊢; exact H)
    by_cases c4 : 0 ≤ (ji3)
    ·rw [if_pos c4] at H
     have c4b0 := eq_true c4
     have c4b1 : decide (0 ≤ (ji3)) = true := decide_eq_true c4
     clear c4
     obtain ⟨ji5, hji5⟩ : ∃ j_ : Int, (shr .u64 a0 (ji3)) = j_ := ⟨_, rfl⟩
     replace H : (if 0 ≤ (Go.bits .and .u64 (ji5) 15) then (if (Go.bits .and .u64 (ji5) 15) < 16 then ((some (([bt (⟨#[48, 49, 50, 51, 52, 53, 54, 55, 56, 57, 97, 98, 99, 100, 101, 102]⟩ : ByteArray) (Go.bits .and .u64 (ji5) 15)] : List Int) : List Int)).bind fun y216 => (if x3_1.size + (strOfNums y216).size ≤ 9223372036854775807 then (cambistref02_Digits.l0 k1 a0 (x3_1 ++ (strOfNums y216)) (wrap64 (x4_1 - 1))) else (none))) else (none)) else (none)) = some r := by first | (rw [hji5] at H; exact H) | (simp only [hji5] at H ⊢; exact H)
     have hji5_ : (a0 / 2 ^ min (ji3).toNat 64) = ji5 := hji5
     have hji5z : (ji3) ≤ 64 → (a0 / 2 ^ (ji3).toNat) = ji5 := shr_small hji5
     by_cases c6 : 0 ≤ (Go.bits .and .u64 (ji5) 15)
     ·rw [if_pos c6] at H
      have c6b0 : decide (0 ≤ (Go.bits .and .u64 (ji5) 15)) = true := decide_eq_true c6
      clear c6
      by_cases c7 : (Go.bits .and .u64 (ji5) 15) < 16
      ·rw [if_pos c7] at H
       have c7b0 : decide ((Go.bits .and .u64 (ji5) 15) < 16) = true := decide_eq_true c7
       clear c7
       obtain ⟨y216, hy216⟩ : ∃ y_ : List Int, y_ = (([bt (⟨#[48, 49, 50, 51, 52, 53, 54, 55, 56, 57, 97, 98, 99, 100, 101, 102]⟩ : ByteArray) (Go.bits .and .u64 (ji5) 15)] : List Int)) := ⟨_, rfl⟩
       replace H : (if x3_1.size + (strOfNums y216).size ≤ 9223372036854775807 then (cambistref02_Digits.l0 k1 a0 (x3_1 ++ (strOfNums y216)) (wrap64 (x4_1 - 1))) else (none)) = some r := by first | (rw [hy216]; with_reducible exact H) | (have H2_ := (Option.bind_some _ _).symm.trans H; rw [hy216]; with_reducible exact H2_) | (have H2_ := (Option.bind_some _ _).symm.trans H; with_reducible exact H2_) | with_reducible exact H | (rw [hy216]; exact H) | exact H
       have Ny216 := a_ hy216
       clear hy216
       by_cases c9 : x3_1.size + (strOfNums y216).size ≤ 9223372036854775807
       ·rw [if_pos c9] at H
        have c9b0 := eq_true c9
        have c9b1 : decide (x3_1.size + (strOfNums y216).size ≤ 9223372036854775807) = true := decide_eq_true c9
        try have c9b2 : (9223372036854775807 < x3_1.size + (strOfNums y216).size) = False := eq_false (Nat.not_lt.2 c9)
        have H' := a_ H
        clear H
        have p8 : 0 ≤ ((Go.bits .and .u64 (ji5) 15) : Int) := of_decide_eq_true z70_
        have q8 : (Go.bits .and .u64 (ji5) 15) < (16 : Int) := of_decide_eq_true z70_
        have hx8 := bt_at (⟨#[48, 49, 50, 51, 52, 53, 54, 55, 56, 57, 97, 98, 99, 100, 101, 102]⟩ : ByteArray) (Go.bits .and .u64 (ji5) 15)
        replace p8 := eq_true p8
        replace q8 := eq_true q8
        go_wp2_with (first | ((with_reducible refine gate_dst (N := 17) rfl ?_); refine Kd.R_lit (Kd.int .u8) _ 5 ?hg (N := 17) ?hd (xs := ([bt (⟨#[48, 49, 50, 51, 52, 53, 54, 55, 56, 57, 97, 98, 99, 100, 101, 102]⟩ : ByteArray) (Go.bits .and .u64 (ji5) 15)] : List Int)) (inner := [.int .u8 (bt (⟨#[48, 49, 50, 51, 52, 53, 54, 55, 56, 57, 97, 98, 99, 100, 101, 102]⟩ : ByteArray) (Go.bits .and .u64 (ji5) 15))]) (ok := fun _ => True) (okp := fun _ => True) ?hr ?hp (fun _ hk => hk) trivial (Below.refl _ _) (Nat.le_refl _) (by simp) ?_; (case hd => rfl); (case hg => rfl); (case hr => first | (go_simp; done) | (go_simp; rfl)); (case hp => exact (Reps.one (show Kd.M (Kd.int .u8) _ _ _ (bt (⟨#[48, 49, 50, 51, 52, 53, 54, 55, 56, 57, 97, 98, 99, 100, 101, 102]⟩ : ByteArray) (Go.bits .and .u64 (ji5) 15)) [.int .u8 (bt (⟨#[48, 49, 50, 51, 52, 53, 54, 55, 56, 57, 97, 98, 99, 100, 101, 102]⟩ : ByteArray) (Go.bits .and .u64 (ji5) 15))] from rfl) (Reps.none _ _))); intro v217 w10 ho11 hb hg_ hnew_; clear hg_ hnew_; (first | rw [← Ny216.out] at ho11 | (simp only [Int.reduceToNat] at ho11; rw [← Ny216.out] at ho11)); have n0_ := a_ (Kd.R_lower ho11 (below_size z33_)); have n1_ := a_ (below_step z33_ hb); clear HB; have HO218 := n0_; have HB := n1_; clear n0_ n1_; clear hb ho11; have hcv12 := own_string (P := Tryz.prog) Tryz.underlying72 Tryz.underlying5 Tryz.underlying9 (Kd.own_of_R HO218.out)))
        go_roundg k1
        case measure => have := HK1.out; omega
        case rel => exact ⟨(x3_1 ++ (strOfNums y216)), (wrap64 (x4_1 - 1)), z71_, z71_, H', ⟨z73_⟩, ⟨z33_⟩⟩
       ·rw [if_neg c9] at H
        exact absurd H (by simp)
      ·rw [if_neg c7] at H
       exact absurd H (by simp)
     ·rw [if_neg c6] at H
      exact absurd H (by simp)
    ·rw [if_neg c4] at H
     exact absurd H (by simp)
   ·rw [if_neg c2] at H
    have c2b0 : decide (0 ≤ x4_1) = false := decide_eq_false c2
    clear c2
    obtain rfl := Option.some.inj H
    go_wp2
    go_ret
    exact ⟨z64_, z33_⟩

/-! ### cambistref02_Number: function 32 -/
def cambistref02_Number.l0 : Nat → ByteArray → Int → Int → Option (Int × Int)
 | 0, _, _, _ => none
 | k + 1, x0, x4, x5 => if x5 < 16 then (if 0 ≤ x5 then (if x5 < (x0.size : Int) then (if (bt x0 x5) ≥ 48 then (if (bt x0 x5) ≤ 57 then (cambistref02_Number.l0 k x0 (IntKind.u64.wrap ((IntKind.u64.wrap (x4 * 16)) + (((bt x0 x5) - 48) % 256))) (wrap64 (x5 + 1))) else (cambistref02_Number.l0 k x0 (IntKind.u64.wrap ((IntKind.u64.wrap (x4 * 16)) + (Go.bits .and .u64 (((((bt x0 x5) - 97) % 256) + 10) % 256) 15))) (wrap64 (x5 + 1)))) else (cambistref02_Number.l0 k x0 (IntKind.u64.wrap ((IntKind.u64.wrap (x4 * 16)) + (Go.bits .and .u64 (((((bt x0 x5) - 97) % 256) + 10) % 256) 15))) (wrap64 (x5 + 1)))) else (none)) else (none)) else ((cambistref02_Digits.f k x4).bind fun t219 => (if t219.toList = x0.toList then (some (x4, 0)) else (some (0, 20))))
def cambistref02_Number.f (k : Nat) (a0 : ByteArray) : Option (Int × Int) := if (a0.size : Int) = 16 then (cambistref02_Number.l0 k a0 0 0) else (some (0, 20))
theorem cambistref02_Number.mono_l : ∀ k, (∀ y0 y1 y2, LeO (cambistref02_Number.l0 k y0 y1 y2) (cambistref02_Number.l0 (k + 1) y0 y1 y2))
 | 0 => fun _ _ _ r h => by simp [cambistref02_Number.l0] at h
 | k + 1 => by
  have ih0 := cambistref02_Number.mono_l k
  ·intro y0 y1 y2
   unfold cambistref02_Number.l0
   repeat' first
   | (with_reducible exact ih0 _ _ _)
   | (with_reducible exact cambistref02_Digits.mono _ _)
   | (with_reducible first | exact LeO.refl _ | exact LeO.none _ | refine LeO.ite ?_ ?_ | refine LeO.bind ?_ fun _ => ?_)
   | exact ih0 _ _ _
   | exact cambistref02_Digits.mono _ _
theorem cambistref02_Number.mono : ∀ a0 k, LeO (cambistref02_Number.f k a0) (cambistref02_Number.f (k + 1) a0) := by
 intro a0 k
 have ih0 := cambistref02_Number.mono_l k
 unfold cambistref02_Number.f
 repeat' first
   | (with_reducible exact ih0 _ _ _)
   | (with_reducible exact cambistref02_Digits.mono _ _)
   | (with_reducible first | exact LeO.refl _ | exact LeO.none _ | refine LeO.ite ?_ ?_ | refine LeO.bind ?_ fun _ => ?_)
   | exact ih0 _ _ _
   | exact cambistref02_Digits.mono _ _
set_option maxHeartbeats 8000000 in
set_option maxRecDepth 100000 in
theorem cambistref02_Number.calls (k : Nat) (a0 : ByteArray) (r1 : Int) (r2 : Int) (w : World) (hG : Glob w) (h : cambistref02_Number.f k a0 = some (r1, r2)) :
  Calls Tryz.prog 32 #[.string a0] w fun e w' => e = .returned (.tuple #[.int .u64 r1, .int .i64 r2]) ∧ Below w.heap.size w w' := by
 have HG := a_ hG
 clear hG
 have HB := a_ (Below.refl w.heap.size w)
 have H : (if (a0.size : Int) = 16 then (cambistref02_Number.l0 k a0 0 0) else (some (0, 20))) = some (r1, r2) := h
 clear h
 by_cases c2 : (a0.size : Int) = 16
 ·rw [if_pos c2] at H
  have c2b0 : ((a0.size : Int) == 16) = true := beq_iff_eq.mpr c2
  have c2b1 : ((a0.size : Int) != 16) = false := bne_eq_false_iff_eq.mpr c2
  clear c2
  have H' := a_ H
  clear H
  go_enter Tryz.func32, Tryz.ntmps32
  go_wp2
  go_loopg [4, 5] k (fun kq v4 v5 w' => ∃ (x4_1 : Int) (x5_1 : Int), v4 = .int .u64 x4_1 ∧ v5 = .int .i64 x5_1 ∧ Aside0 (cambistref02_Number.l0 kq a0 x4_1 x5_1 = some (r1, r2)) ∧ Aside0 (kq ≤ k) ∧ Aside0 (Below w.heap.size w w'))
  case atStart => exact ⟨(0), (0), z71_, z71_, H', ⟨Nat.le_refl _⟩, ⟨z33_⟩⟩
  case round =>
   clear H'
   try clear c2
   try clear c2b0
   try clear c2b1
   try clear p2
   obtain ⟨x4_1, x5_1, rfl, rfl, HA, HK1, HB⟩ := hrel
   cases gk with
   | zero => exact absurd HA.out (by simp [cambistref02_Number.l0])
   | succ k1 =>
    have H := HA.out
    clear HA
    simp only [cambistref02_Number.l0] at H
    by_cases c3 : x5_1 < 16
    ·rw [if_pos c3] at H
     have c3b0 : decide (x5_1 < 16) = true := decide_eq_true c3
     clear c3
     by_cases c4 : 0 ≤ x5_1
     ·rw [if_pos c4] at H
      have c4b0 : decide (0 ≤ x5_1) = true := decide_eq_true c4
      clear c4
      by_cases c5 : x5_1 < (a0.size : Int)
      ·rw [if_pos c5] at H
       have c5b0 : decide (x5_1 < (a0.size : Int)) = true := decide_eq_true c5
       clear c5
       by_cases c7 : (bt a0 x5_1) ≥ 48
       ·rw [if_pos c7] at H
        have c7b0 : decide (48 ≤ (bt a0 x5_1)) = true := decide_eq_true c7
        clear c7
        by_cases c9 : (bt a0 x5_1) ≤ 57
        ·rw [if_pos c9] at H
         have c9b0 : decide ((bt a0 x5_1) ≤ 57) = true := decide_eq_true c9
         clear c9
         have H' := a_ H
         clear H
         have p6 : 0 ≤ (x5_1 : Int) := of_decide_eq_true z70_
         have q6 : x5_1 < (a0.size : Int) := of_decide_eq_true z70_
         have hx6 := bt_at a0 x5_1
         replace p6 := eq_true p6
         replace q6 := eq_true q6
         have p8 : 0 ≤ (x5_1 : Int) := of_decide_eq_true z70_
         have q8 : x5_1 < (a0.size : Int) := of_decide_eq_true z70_
         have hx8 := bt_at a0 x5_1
         replace p8 := eq_true p8
         replace q8 := eq_true q8
         have p10 : 0 ≤ (x5_1 : Int) := of_decide_eq_true z70_
         have q10 : x5_1 < (a0.size : Int) := of_decide_eq_true z70_
         have hx10 := bt_at a0 x5_1
         replace p10 := eq_true p10
         replace q10 := eq_true q10
         go_wp2
         go_roundg k1
         case measure => have := HK1.out; omega
         case rel => exact ⟨(IntKind.u64.wrap ((IntKind.u64.wrap (x4_1 * 16)) + (((bt a0 x5_1) - 48) % 256))), (wrap64 (x5_1 + 1)), z71_, z71_, H', ⟨z73_⟩, ⟨z33_⟩⟩
        ·rw [if_neg c9] at H
         have c9b0 : decide ((bt a0 x5_1) ≤ 57) = false := decide_eq_false c9
         clear c9
         have H' := a_ H
         clear H
         have p6 : 0 ≤ (x5_1 : Int) := of_decide_eq_true z70_
         have q6 : x5_1 < (a0.size : Int) := of_decide_eq_true z70_
         have hx6 := bt_at a0 x5_1
         replace p6 := eq_true p6
         replace q6 := eq_true q6
         have p8 : 0 ≤ (x5_1 : Int) := of_decide_eq_true z70_
         have q8 : x5_1 < (a0.size : Int) := of_decide_eq_true z70_
         have hx8 := bt_at a0 x5_1
         replace p8 := eq_true p8
         replace q8 := eq_true q8
         have p11 : 0 ≤ (x5_1 : Int) := of_decide_eq_true z70_
         have q11 : x5_1 < (a0.size : Int) := of_decide_eq_true z70_
         have hx11 := bt_at a0 x5_1
         replace p11 := eq_true p11
         replace q11 := eq_true q11
         go_wp2
         go_roundg k1
         case measure => have := HK1.out; omega
         case rel => exact ⟨(IntKind.u64.wrap ((IntKind.u64.wrap (x4_1 * 16)) + (Go.bits .and .u64 (((((bt a0 x5_1) - 97) % 256) + 10) % 256) 15))), (wrap64 (x5_1 + 1)), z71_, z71_, H', ⟨z73_⟩, ⟨z33_⟩⟩
       ·rw [if_neg c7] at H
        have c7b0 : decide (48 ≤ (bt a0 x5_1)) = false := decide_eq_false c7
        clear c7
        have H' := a_ H
        clear H
        have p6 : 0 ≤ (x5_1 : Int) := of_decide_eq_true z70_
        have q6 : x5_1 < (a0.size : Int) := of_decide_eq_true z70_
        have hx6 := bt_at a0 x5_1
        replace p6 := eq_true p6
        replace q6 := eq_true q6
        have p12 : 0 ≤ (x5_1 : Int) := of_decide_eq_true z70_
        have q12 : x5_1 < (a0.size : Int) := of_decide_eq_true z70_
        have hx12 := bt_at a0 x5_1
        replace p12 := eq_true p12
        replace q12 := eq_true q12
        go_wp2
        go_roundg k1
        case measure => have := HK1.out; omega
        case rel => exact ⟨(IntKind.u64.wrap ((IntKind.u64.wrap (x4_1 * 16)) + (Go.bits .and .u64 (((((bt a0 x5_1) - 97) % 256) + 10) % 256) 15))), (wrap64 (x5_1 + 1)), z71_, z71_, H', ⟨z73_⟩, ⟨z33_⟩⟩
      ·rw [if_neg c5] at H
       exact absurd H (by simp)
     ·rw [if_neg c4] at H
      exact absurd H (by simp)
    ·rw [if_neg c3] at H
     have c3b0 : decide (x5_1 < 16) = false := decide_eq_false c3
     clear c3
     replace H := Option.bind_eq_some_iff.mp H
     obtain ⟨t219, A130, H⟩ := H
     replace H : (if t219.toList = a0.toList then (some (x4_1, 0)) else (some (0, 20))) = some (r1, r2) := H
     have A13 := a_ A130
     clear A130
     by_cases c14 : t219.toList = a0.toList
     ·rw [if_pos c14] at H
      have c14b0 : (t219.toList == a0.toList) = true := beq_iff_eq.mpr c14
      have c14b1 : (t219.toList != a0.toList) = false := bne_eq_false_iff_eq.mpr c14
      clear c14
      simp only [Option.some.injEq, Prod.mk.injEq] at H
      obtain ⟨rfl, rfl⟩ := H
      go_wp2_with (first | ((with_reducible refine gate_callee (f := 35) rfl ?_); refine goesL_ (some 42) rfl rfl Tryz.func35 z74_ rfl #[.int .u64 x4_1] rfl z19_ ?_; (with_reducible refine (cambistref02_Digits.calls k1 x4_1 t219 _ ?side1 A13.out).mono ?_); (case side1 => exact Glob.below HG.out z33_); rintro e w15 ⟨rfl, hb⟩; refine ⟨_, rfl, ?_⟩; have n0_ := a_ (below_step z33_ hb); clear HB; have HB := n0_; clear n0_; (try clear hb); (try clear hb2); (try clear hk); (try clear hi)))
      go_ret2
      exact ⟨z64_, z33_⟩
     ·rw [if_neg c14] at H
      have c14b0 : (t219.toList == a0.toList) = false := beq_eq_false_iff_ne.mpr c14
      have c14b1 : (t219.toList != a0.toList) = true := bne_iff_ne.mpr c14
      simp only [Option.some.injEq, Prod.mk.injEq] at H
      obtain ⟨rfl, rfl⟩ := H
      go_wp2_with (first | ((with_reducible refine gate_callee (f := 35) rfl ?_); refine goesL_ (some 42) rfl rfl Tryz.func35 z74_ rfl #[.int .u64 x4_1] rfl z19_ ?_; (with_reducible refine (cambistref02_Digits.calls k1 x4_1 t219 _ ?side1 A13.out).mono ?_); (case side1 => exact Glob.below HG.out z33_); rintro e w16 ⟨rfl, hb⟩; refine ⟨_, rfl, ?_⟩; have n0_ := a_ (below_step z33_ hb); clear HB; have HB := n0_; clear n0_; (try clear hb); (try clear hb2); (try clear hk); (try clear hi)))
      go_ret2
      exact ⟨z64_, z33_⟩
 ·rw [if_neg c2] at H
  have c2b0 : ((a0.size : Int) == 16) = false := beq_eq_false_iff_ne.mpr c2
  have c2b1 : ((a0.size : Int) != 16) = true := bne_iff_ne.mpr c2
  simp only [Option.some.injEq, Prod.mk.injEq] at H
  obtain ⟨rfl, rfl⟩ := H
  go_enter Tryz.func32, Tryz.ntmps32
  go_wp2
  go_ret2
  exact ⟨z64_, z33_⟩

/-! ### cambistref01_size: function 51 -/
def cambistref01_size.f (a0 : Int) : Option (Int) := if a0 < 0 then (some (IntKind.u64.wrap ((IntKind.u64.wrap (wrap64 (-(wrap64 (a0 + 1))))) + 1))) else (some (IntKind.u64.wrap (a0)))
set_option maxHeartbeats 8000000 in
set_option maxRecDepth 100000 in
theorem cambistref01_size.calls (a0 : Int) (r : Int) (w : World) (hG : Glob w) (h : cambistref01_size.f a0 = some r) :
  Calls Tryz.prog 51 #[.int .i64 a0] w fun e w' => e = .returned (.int .u64 r) ∧ Drawn0 w w' := by
 have HG := a_ hG
 clear hG
 have H : (if a0 < 0 then (some (IntKind.u64.wrap ((IntKind.u64.wrap (wrap64 (-(wrap64 (a0 + 1))))) + 1))) else (some (IntKind.u64.wrap (a0)))) = some r := h
 clear h
 by_cases c2 : a0 < 0
 ·rw [if_pos c2] at H
  have c2b0 : decide (a0 < 0) = true := decide_eq_true c2
  clear c2
  obtain rfl := Option.some.inj H
  go_enter Tryz.func51, Tryz.ntmps51
  go_wp2
  go_ret
  exact ⟨z71_, z67_⟩
 ·rw [if_neg c2] at H
  have c2b0 : decide (a0 < 0) = false := decide_eq_false c2
  clear c2
  obtain rfl := Option.some.inj H
  go_enter Tryz.func51, Tryz.ntmps51
  go_wp2
  go_ret
  exact ⟨z71_, z67_⟩

/-! ### cambistref01_Text: function 37 -/
def cambistref01_Text.l0 : Nat → Int → Int → ByteArray → Option (ByteArray)
 | 0, _, _, _ => none
 | k + 1, x0, x3, x4 => if x3 > 0 then ((some (([(IntKind.u64.wrap (48 + (Int.tmod x3 10))) % 256] : List Int) : List Int)).bind fun y224 => (if (strOfNums y224).size + x4.size ≤ 9223372036854775807 then (cambistref01_Text.l0 k x0 (IntKind.u64.wrap (Int.tdiv x3 10)) ((strOfNums y224) ++ x4)) else (none))) else (if x0 < 0 then (if 1 + x4.size ≤ 9223372036854775807 then (some ((⟨#[45]⟩ : ByteArray) ++ x4)) else (none)) else (some x4))
def cambistref01_Text.f (k : Nat) (a0 : Int) : Option (ByteArray) := (cambistref01_size.f a0).bind fun t220 => (cambistref01_Text.l0 k a0 (IntKind.u64.wrap (Int.tdiv t220 10)) (strOfNums (([(IntKind.u64.wrap (48 + (Int.tmod t220 10))) % 256] : List Int))))
theorem cambistref01_Text.mono_l : ∀ k, (∀ y0 y1 y2, LeO (cambistref01_Text.l0 k y0 y1 y2) (cambistref01_Text.l0 (k + 1) y0 y1 y2))
 | 0 => fun _ _ _ r h => by simp [cambistref01_Text.l0] at h
 | k + 1 => by
  have ih0 := cambistref01_Text.mono_l k
  ·intro y0 y1 y2
   unfold cambistref01_Text.l0
   repeat' first
   | (with_reducible exact ih0 _ _ _)
   | (with_reducible first | exact LeO.refl _ | exact LeO.none _ | refine LeO.ite ?_ ?_ | refine LeO.bind ?_ fun _ => ?_)
   | exact ih0 _ _ _
theorem cambistref01_Text.mono : ∀ a0 k, LeO (cambistref01_Text.f k a0) (cambistref01_Text.f (k + 1) a0) := by
 intro a0 k
 have ih0 := cambistref01_Text.mono_l k
 unfold cambistref01_Text.f
 repeat' first
   | (with_reducible exact ih0 _ _ _)
   | (with_reducible first | exact LeO.refl _ | exact LeO.none _ | refine LeO.ite ?_ ?_ | refine LeO.bind ?_ fun _ => ?_)
   | exact ih0 _ _ _
set_option maxHeartbeats 8000000 in
set_option maxRecDepth 100000 in
theorem cambistref01_Text.calls (k : Nat) (a0 : Int) (r : ByteArray) (w : World) (hG : Glob w) (h : cambistref01_Text.f k a0 = some r) :
  Calls Tryz.prog 37 #[.int .i64 a0] w fun e w' => e = .returned (.string r) ∧ Below w.heap.size w w' := by
 have HG := a_ hG
 clear hG
 have HB := a_ (Below.refl w.heap.size w)
 have H : ((cambistref01_size.f a0).bind fun t220 => (cambistref01_Text.l0 k a0 (IntKind.u64.wrap (Int.tdiv t220 10)) (strOfNums (([(IntKind.u64.wrap (48 + (Int.tmod t220 10))) % 256] : List Int))))) = some r := h
 clear h
 replace H := Option.bind_eq_some_iff.mp H
 obtain ⟨t220, A20, H⟩ := H
 replace H : (cambistref01_Text.l0 k a0 (IntKind.u64.wrap (Int.tdiv t220 10)) (strOfNums (([(IntKind.u64.wrap (48 + (Int.tmod t220 10))) % 256] : List Int)))) = some r := H
 have A2 := a_ A20
 clear A20
 obtain ⟨y221, hy221⟩ : ∃ y_ : List Int, y_ = (([(IntKind.u64.wrap (48 + (Int.tmod t220 10))) % 256] : List Int)) := ⟨_, rfl⟩
 replace H : (cambistref01_Text.l0 k a0 (IntKind.u64.wrap (Int.tdiv t220 10)) (strOfNums y221)) = some r := by first | (rw [hy221]; with_reducible exact H) | (have H2_ := (Option.bind_some _ _).symm.trans H; rw [hy221]; with_reducible exact H2_) | (have H2_ := (Option.bind_some _ _).symm.trans H; with_reducible exact H2_) | with_reducible exact H | (rw [hy221]; exact H) | exact H
 have Ny221 := a_ hy221
 clear hy221
 have H' := a_ H
 clear H
 go_enter Tryz.func37, Tryz.ntmps37
 go_wp2_with (first | ((with_reducible refine gate_callee (f := 51) rfl ?_); refine goesL_ (some 6) rfl rfl Tryz.func51 z74_ rfl #[.int .i64 a0] rfl z19_ ?_; (with_reducible refine (cambistref01_size.calls a0 t220 _ ?side1 A2.out).mono ?_); (case side1 => exact Glob.below HG.out z33_); rintro e w' ⟨rfl, ⟨nd, rfl⟩⟩; refine ⟨_, rfl, ?_⟩) | ((with_reducible refine gate_dst (N := 11) rfl ?_); refine Kd.R_lit (Kd.int .u8) _ 5 ?hg (N := 11) ?hd (xs := ([(IntKind.u64.wrap (48 + (Int.tmod t220 10))) % 256] : List Int)) (inner := [.int .u8 ((IntKind.u64.wrap (48 + (Int.tmod t220 10))) % 256)]) (ok := fun _ => True) (okp := fun _ => True) ?hr ?hp (fun _ hk => hk) trivial (Below.refl _ _) (Nat.le_refl _) (by simp) ?_; (case hd => rfl); (case hg => rfl); (case hr => first | (go_simp; done) | (go_simp; rfl)); (case hp => exact (Reps.one (show Kd.M (Kd.int .u8) _ _ _ ((IntKind.u64.wrap (48 + (Int.tmod t220 10))) % 256) [.int .u8 ((IntKind.u64.wrap (48 + (Int.tmod t220 10))) % 256)] from rfl) (Reps.none _ _))); intro v222 w3 ho4 hb hg_ hnew_; clear hg_ hnew_; (first | rw [← Ny221.out] at ho4 | (simp only [Int.reduceToNat] at ho4; rw [← Ny221.out] at ho4)); have n0_ := a_ (Kd.R_lower ho4 (below_size z33_)); have n1_ := a_ (below_step z33_ hb); clear HB; have HO223 := n0_; have HB := n1_; clear n0_ n1_; clear hb ho4; have hcv5 := own_string (P := Tryz.prog) Tryz.underlying72 Tryz.underlying5 Tryz.underlying9 (Kd.own_of_R HO223.out)))
 go_loopg [3, 4] k (fun kq v3 v4 w' => ∃ (x3_1 : Int) (x4_1 : ByteArray), v3 = .int .u64 x3_1 ∧ v4 = .string x4_1 ∧ Aside0 (cambistref01_Text.l0 kq a0 x3_1 x4_1 = some r) ∧ Aside0 (kq ≤ k) ∧ Aside0 (Below w.heap.size w w'))
 case atStart => exact ⟨(IntKind.u64.wrap (Int.tdiv t220 10)), (strOfNums y221), z71_, z71_, H', ⟨Nat.le_refl _⟩, ⟨z33_⟩⟩
 case round =>
  clear H'
  try clear p2
  try clear c3
  try clear c5
  try clear hcv5
  obtain ⟨x3_1, x4_1, rfl, rfl, HA, HK1, HB⟩ := hrel
  cases gk with
  | zero => exact absurd HA.out (by simp [cambistref01_Text.l0])
  | succ k1 =>
   have H := HA.out
   clear HA
   simp only [cambistref01_Text.l0] at H
   by_cases c6 : x3_1 > 0
   ·rw [if_pos c6] at H
    have c6b0 : decide (0 < x3_1) = true := decide_eq_true c6
    clear c6
    obtain ⟨y224, hy224⟩ : ∃ y_ : List Int, y_ = (([(IntKind.u64.wrap (48 + (Int.tmod x3_1 10))) % 256] : List Int)) := ⟨_, rfl⟩
    replace H : (if (strOfNums y224).size + x4_1.size ≤ 9223372036854775807 then (cambistref01_Text.l0 k1 a0 (IntKind.u64.wrap (Int.tdiv x3_1 10)) ((strOfNums y224) ++ x4_1)) else (none)) = some r := by first | (rw [hy224]; with_reducible exact H) | (have H2_ := (Option.bind_some _ _).symm.trans H; rw [hy224]; with_reducible exact H2_) | (have H2_ := (Option.bind_some _ _).symm.trans H; with_reducible exact H2_) | with_reducible exact H | (rw [hy224]; exact H) | exact H
    have Ny224 := a_ hy224
    clear hy224
    by_cases c7 : (strOfNums y224).size + x4_1.size ≤ 9223372036854775807
    ·rw [if_pos c7] at H
     have c7b0 := eq_true c7
     have c7b1 : decide ((strOfNums y224).size + x4_1.size ≤ 9223372036854775807) = true := decide_eq_true c7
     try have c7b2 : (9223372036854775807 < (strOfNums y224).size + x4_1.size) = False := eq_false (Nat.not_lt.2 c7)
     have H' := a_ H
     clear H
     go_wp2_with (first | ((with_reducible refine gate_dst (N := 23) rfl ?_); refine Kd.R_lit (Kd.int .u8) _ 5 ?hg (N := 23) ?hd (xs := ([(IntKind.u64.wrap (48 + (Int.tmod x3_1 10))) % 256] : List Int)) (inner := [.int .u8 ((IntKind.u64.wrap (48 + (Int.tmod x3_1 10))) % 256)]) (ok := fun _ => True) (okp := fun _ => True) ?hr ?hp (fun _ hk => hk) trivial (Below.refl _ _) (Nat.le_refl _) (by simp) ?_; (case hd => rfl); (case hg => rfl); (case hr => first | (go_simp; done) | (go_simp; rfl)); (case hp => exact (Reps.one (show Kd.M (Kd.int .u8) _ _ _ ((IntKind.u64.wrap (48 + (Int.tmod x3_1 10))) % 256) [.int .u8 ((IntKind.u64.wrap (48 + (Int.tmod x3_1 10))) % 256)] from rfl) (Reps.none _ _))); intro v225 w8 ho9 hb hg_ hnew_; clear hg_ hnew_; (first | rw [← Ny224.out] at ho9 | (simp only [Int.reduceToNat] at ho9; rw [← Ny224.out] at ho9)); have n0_ := a_ (Kd.R_lower ho9 (below_size z33_)); have n1_ := a_ (below_step z33_ hb); clear HB; have HO226 := n0_; have HB := n1_; clear n0_ n1_; clear hb ho9; have hcv10 := own_string (P := Tryz.prog) Tryz.underlying72 Tryz.underlying5 Tryz.underlying9 (Kd.own_of_R HO226.out)))
     go_roundg k1
     case measure => have := HK1.out; omega
     case rel => exact ⟨(IntKind.u64.wrap (Int.tdiv x3_1 10)), ((strOfNums y224) ++ x4_1), z71_, z71_, H', ⟨z73_⟩, ⟨z33_⟩⟩
    ·rw [if_neg c7] at H
     exact absurd H (by simp)
   ·rw [if_neg c6] at H
    have c6b0 : decide (0 < x3_1) = false := decide_eq_false c6
    clear c6
    by_cases c11 : a0 < 0
    ·rw [if_pos c11] at H
     have c11b0 : decide (a0 < 0) = true := decide_eq_true c11
     clear c11
     by_cases c12 : 1 + x4_1.size ≤ 9223372036854775807
     ·rw [if_pos c12] at H
      have c12b0 := eq_true c12
      have c12b1 : decide (1 + x4_1.size ≤ 9223372036854775807) = true := decide_eq_true c12
      try have c12b2 : (9223372036854775807 < 1 + x4_1.size) = False := eq_false (Nat.not_lt.2 c12)
      obtain rfl := Option.some.inj H
      go_wp2
      go_ret
      exact ⟨z64_, z33_⟩
     ·rw [if_neg c12] at H
      exact absurd H (by simp)
    ·rw [if_neg c11] at H
     have c11b0 : decide (a0 < 0) = false := decide_eq_false c11
     clear c11
     obtain rfl := Option.some.inj H
     go_wp2
     go_ret
     exact ⟨z64_, z33_⟩

end Go.Proofs.YtjlifcbddednaaaGreatDoor.P
