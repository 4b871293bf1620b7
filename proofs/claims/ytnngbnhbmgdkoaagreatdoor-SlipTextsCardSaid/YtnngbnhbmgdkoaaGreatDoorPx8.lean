-- Laid by wip/tools/cprint.py of this claim's own repo (over the kit's print).
import Derived.Test.YtnngbnhbmgdkoaaGreatDoorSq
import Derived.Test.YtnngbnhbmgdkoaaGreatDoorPx0
import Derived.Test.YtnngbnhbmgdkoaaGreatDoorPx6
namespace Go.Proofs.YtnngbnhbmgdkoaaGreatDoor.P
open Go.RowKit Go.Proofs.YtnngbnhbmgdkoaaGreatDoor.E Go.Proofs.YtnngbnhbmgdkoaaGreatDoorW.PrintWords Go.Proofs.YtnngbnhbmgdkoaaGreatDoorW.PrintLast
set_option linter.unusedVariables false
set_option linter.unusedSimpArgs false

/-! ### cambistref19_Words: function 29 -/
def cambistref19_Words.l0 : Nat → ByteArray → List ByteArray → ByteArray → Int → Option (List ByteArray)
 | 0, _, _, _, _ => none
 | k + 1, x0, x3, x4, x5 => if x5 < (x0.size : Int) then (if 0 ≤ x5 then (if (bt x0 x5) = 32 then (if x3.length < 8796093022208 then (cambistref19_Words.l0 k x0 (x3 ++ [x4]) (⟨#[]⟩ : ByteArray) (wrap64 (x5 + 1))) else (none)) else (if x5 ≤ (wrap64 (x5 + 1)) then (if (wrap64 (x5 + 1)) ≤ (x0.size : Int) then (if x4.size + (x0.extract (x5 : Int).toNat ((wrap64 (x5 + 1)) : Int).toNat).size ≤ 9223372036854775807 then (cambistref19_Words.l0 k x0 x3 (x4 ++ (x0.extract (x5 : Int).toNat ((wrap64 (x5 + 1)) : Int).toNat)) (wrap64 (x5 + 1))) else (none)) else (none)) else (none))) else (none)) else (if x3.length < 8796093022208 then (some (x3 ++ [x4])) else (none))
def cambistref19_Words.f (k : Nat) (a0 : ByteArray) : Option (List ByteArray) := cambistref19_Words.l0 k a0 ([] : List ByteArray) (⟨#[]⟩ : ByteArray) 0
theorem cambistref19_Words.mono_l : ∀ k, (∀ y0 y1 y2 y3, LeO (cambistref19_Words.l0 k y0 y1 y2 y3) (cambistref19_Words.l0 (k + 1) y0 y1 y2 y3))
 | 0 => fun _ _ _ _ r h => by simp [cambistref19_Words.l0] at h
 | k + 1 => by
  have ih0 := cambistref19_Words.mono_l k
  ·intro y0 y1 y2 y3
   unfold cambistref19_Words.l0
   repeat' first
   | (with_reducible exact ih0 _ _ _ _)
   | (with_reducible first | exact LeO.refl _ | exact LeO.none _ | refine LeO.ite ?_ ?_ | refine LeO.bind ?_ fun _ => ?_)
   | exact ih0 _ _ _ _
theorem cambistref19_Words.mono : ∀ a0 k, LeO (cambistref19_Words.f k a0) (cambistref19_Words.f (k + 1) a0) := by
 intro a0 k
 have ih0 := cambistref19_Words.mono_l k
 unfold cambistref19_Words.f
 repeat' first
   | (with_reducible exact ih0 _ _ _ _)
   | (with_reducible first | exact LeO.refl _ | exact LeO.none _ | refine LeO.ite ?_ ?_ | refine LeO.bind ?_ fun _ => ?_)
   | exact ih0 _ _ _ _
set_option maxHeartbeats 8000000 in
set_option maxRecDepth 100000 in
theorem cambistref19_Words.calls (k : Nat) (a0 : ByteArray) (r : List ByteArray) (w : World) (hG : Glob w) (h : cambistref19_Words.f k a0 = some r) :
  Calls Tryz.prog 29 #[.string a0] w fun e w' => ∃ v0_ : Value, e = .returned (v0_) ∧ Kd.R Kd.string 9 w' w.heap.size (fun _ => True) v0_ r ∧ Below w.heap.size w w' := by
 have HG := a_ hG
 clear hG
 have HB := a_ (Below.refl w.heap.size w)
 have H : (cambistref19_Words.l0 k a0 ([] : List ByteArray) (⟨#[]⟩ : ByteArray) 0) = some r := h
 clear h
 have H' := a_ H
 clear H
 go_enter Tryz.func29, Tryz.ntmps29
 go_wp2
 go_loopg [3, 4, 5] k (fun kq v3 v4 v5 w' => ∃ (x3_1 : List ByteArray) (x4_1 : ByteArray) (x5_1 : Int), v4 = .string x4_1 ∧ v5 = .int .i64 x5_1 ∧ Aside0 (cambistref19_Words.l0 kq a0 x3_1 x4_1 x5_1 = some r) ∧ Aside0 (kq ≤ k) ∧ Aside0 (Kd.R Kd.string 9 w' w.heap.size (fun _ => True) v3 x3_1) ∧ Aside0 (Below w.heap.size w w'))
 case atStart => exact ⟨(([] : List ByteArray)), ((⟨#[]⟩ : ByteArray)), (0), z80_, z80_, H', ⟨Nat.le_refl _⟩, ⟨z30_⟩, ⟨z45_⟩⟩
 case round =>
  clear H'
  obtain ⟨x3_1, x4_1, x5_1, rfl, rfl, HA, HK1, HO_3, HB⟩ := hrel
  cases gk with
  | zero => exact absurd HA.out (by simp [cambistref19_Words.l0])
  | succ k1 =>
   have H := HA.out
   clear HA
   simp only [cambistref19_Words.l0] at H
   by_cases c2 : x5_1 < (a0.size : Int)
   ·rw [if_pos c2] at H
    have c2b0 : decide (x5_1 < (a0.size : Int)) = true := decide_eq_true c2
    clear c2
    by_cases c3 : 0 ≤ x5_1
    ·rw [if_pos c3] at H
     have c3b0 : decide (0 ≤ x5_1) = true := decide_eq_true c3
     clear c3
     by_cases c5 : (bt a0 x5_1) = 32
     ·rw [if_pos c5] at H
      have c5b0 : ((bt a0 x5_1) == 32) = true := beq_iff_eq.mpr c5
      have c5b1 : ((bt a0 x5_1) != 32) = false := bne_eq_false_iff_eq.mpr c5
      clear c5
      by_cases c6 : x3_1.length < 8796093022208
      ·rw [if_pos c6] at H
       have LMc6 := a_ c6
       clear c6
       obtain ⟨y226, hy226⟩ : ∃ y_ : List ByteArray, y_ = (x3_1 ++ [x4_1]) := ⟨_, rfl⟩
       replace H : (cambistref19_Words.l0 k1 a0 y226 (⟨#[]⟩ : ByteArray) (wrap64 (x5_1 + 1))) = some r := by first | (rw [hy226]; with_reducible exact H) | (have H2_ := (Option.bind_some _ _).symm.trans H; rw [hy226]; with_reducible exact H2_) | (have H2_ := (Option.bind_some _ _).symm.trans H; with_reducible exact H2_) | with_reducible exact H | (rw [hy226]; exact H) | exact H
       have Ny226 := a_ hy226
       clear hy226
       have H' := a_ H
       clear H
       have p4 : 0 ≤ (x5_1 : Int) := of_decide_eq_true z79_
       have q4 : x5_1 < (a0.size : Int) := of_decide_eq_true z79_
       have hx4 := bt_at a0 x5_1
       replace p4 := eq_true p4
       replace q4 := eq_true q4
       go_wp2_with (first | ((with_reducible refine gate_builtin (b := .append) (xs := #[.tmp 16, .tmp 18]) rfl ?_); at_builtin; refine Kd.R_append Kd.string (w0 := w) w.heap.size rfl (.tmp 16) (.tmp 18) 51 9 (.string ⟨#[]⟩) 16 rfl Tryz.underlying51 info9 rfl (by decide) (by omega) u3 x3_1 x4_1 [.string x4_1] (fun _ => True) (fun _ => False) rfl rfl ?aP (fun _ hk => hk.elim) ?aF ?aO ?aB ?aS ?aL ?_; (case aP => exact rfl); (case aB => exact z45_); (case aF => exact (fun _ _ => trivial)); (case aO => exact z56_); (case aS => exact (below_size z45_)); (case aL => have := LMc6.out; omega); intro v227 w7 ho hb hg hat; rw [← Ny226.out] at ho; have n0_ := a_ (hb); have n1_ := a_ (ho); clear HB; clear HO_3; have HB := n0_; have HO228 := n1_; clear n0_ n1_; clear ho hb hg hat))
       go_roundg k1
       case measure => have := HK1.out; omega
       case rel => exact ⟨(y226), ((⟨#[]⟩ : ByteArray)), (wrap64 (x5_1 + 1)), z80_, z80_, H', ⟨z84_⟩, ⟨by (with_reducible repeat (first | apply Kd.R_alloc | apply Kd.R_drewN | apply Kd.R_drew)); exact HO228.out⟩, ⟨z45_⟩⟩
      ·rw [if_neg c6] at H
       exact absurd H (by simp)
     ·rw [if_neg c5] at H
      have c5b0 : ((bt a0 x5_1) == 32) = false := beq_eq_false_iff_ne.mpr c5
      have c5b1 : ((bt a0 x5_1) != 32) = true := bne_iff_ne.mpr c5
      have c8b0 := eq_true (of_decide_eq_true z79_ : 0 ≤ x5_1)
      by_cases c9 : x5_1 ≤ (wrap64 (x5_1 + 1))
      ·rw [if_pos c9] at H
       have c9b0 := eq_true c9
       have c9b1 : decide (x5_1 ≤ (wrap64 (x5_1 + 1))) = true := decide_eq_true c9
       by_cases c10 : (wrap64 (x5_1 + 1)) ≤ (a0.size : Int)
       ·rw [if_pos c10] at H
        have c10b0 := eq_true c10
        have c10b1 : decide ((wrap64 (x5_1 + 1)) ≤ (a0.size : Int)) = true := decide_eq_true c10
        by_cases c11 : x4_1.size + (a0.extract (x5_1 : Int).toNat ((wrap64 (x5_1 + 1)) : Int).toNat).size ≤ 9223372036854775807
        ·rw [if_pos c11] at H
         have c11b0 := eq_true c11
         have c11b1 : decide (x4_1.size + (a0.extract (x5_1 : Int).toNat ((wrap64 (x5_1 + 1)) : Int).toNat).size ≤ 9223372036854775807) = true := decide_eq_true c11
         try have c11b2 : (9223372036854775807 < x4_1.size + (a0.extract (x5_1 : Int).toNat ((wrap64 (x5_1 + 1)) : Int).toNat).size) = False := eq_false (Nat.not_lt.2 c11)
         have H' := a_ H
         clear H
         have p4 : 0 ≤ (x5_1 : Int) := of_decide_eq_true z79_
         have q4 : x5_1 < (a0.size : Int) := of_decide_eq_true z79_
         have hx4 := bt_at a0 x5_1
         replace p4 := eq_true p4
         replace q4 := eq_true q4
         go_wp2
         go_roundg k1
         case measure => have := HK1.out; omega
         case rel => exact ⟨(x3_1), (x4_1 ++ (a0.extract (x5_1 : Int).toNat ((wrap64 (x5_1 + 1)) : Int).toNat)), (wrap64 (x5_1 + 1)), z80_, z80_, H', ⟨z84_⟩, ⟨z56_⟩, ⟨z45_⟩⟩
        ·rw [if_neg c11] at H
         exact absurd H (by simp)
       ·rw [if_neg c10] at H
        exact absurd H (by simp)
      ·rw [if_neg c9] at H
       exact absurd H (by simp)
    ·rw [if_neg c3] at H
     exact absurd H (by simp)
   ·rw [if_neg c2] at H
    have c2b0 : decide (x5_1 < (a0.size : Int)) = false := decide_eq_false c2
    clear c2
    by_cases c12 : x3_1.length < 8796093022208
    ·rw [if_pos c12] at H
     have LMc12 := a_ c12
     clear c12
     obtain ⟨y229, hy229⟩ : ∃ y_ : List ByteArray, y_ = (x3_1 ++ [x4_1]) := ⟨_, rfl⟩
     replace H : (some y229) = some r := by first | (rw [hy229]; with_reducible exact H) | (have H2_ := (Option.bind_some _ _).symm.trans H; rw [hy229]; with_reducible exact H2_) | (have H2_ := (Option.bind_some _ _).symm.trans H; with_reducible exact H2_) | with_reducible exact H | (rw [hy229]; exact H) | exact H
     have Ny229 := a_ hy229
     clear hy229
     obtain rfl := Option.some.inj H
     go_wp2_with (first | ((with_reducible refine gate_builtin (b := .append) (xs := #[.tmp 27, .tmp 29]) rfl ?_); at_builtin; refine Kd.R_append Kd.string (w0 := w) w.heap.size rfl (.tmp 27) (.tmp 29) 51 9 (.string ⟨#[]⟩) 16 rfl Tryz.underlying51 info9 rfl (by decide) (by omega) u3 x3_1 x4_1 [.string x4_1] (fun _ => True) (fun _ => False) rfl rfl ?aP (fun _ hk => hk.elim) ?aF ?aO ?aB ?aS ?aL ?_; (case aP => exact rfl); (case aB => exact z45_); (case aF => exact (fun _ _ => trivial)); (case aO => exact z56_); (case aS => exact (below_size z45_)); (case aL => have := LMc12.out; omega); intro v230 w13 ho hb hg hat; rw [← Ny229.out] at ho; have n0_ := a_ (hb); have n1_ := a_ (ho); clear HB; clear HO_3; have HB := n0_; have HO231 := n1_; clear n0_ n1_; clear ho hb hg hat))
     go_ret
     exact ⟨_, z76_, by (with_reducible repeat (first | apply Kd.R_alloc | apply Kd.R_drewN | apply Kd.R_drew)); exact HO231.out, z45_⟩
    ·rw [if_neg c12] at H
     exact absurd H (by simp)

/-! ### cambistref19_Unsigned: function 30 -/
def cambistref19_Unsigned.l0 : Nat → ByteArray → Int → Int → Option (Int)
 | 0, _, _, _ => none
 | k + 1, x0, x3, x4 => if x4 < (x0.size : Int) then (if 0 ≤ x4 then (cambistref19_Unsigned.l0 k x0 (IntKind.u64.wrap ((IntKind.u64.wrap (x3 * 10)) + (((bt x0 x4) - 48) % 256))) (wrap64 (x4 + 1))) else (none)) else ((cambistref19_Decimal.f k x3).bind fun t232 => (if t232.toList = x0.toList then (some x3) else (some 0)))
def cambistref19_Unsigned.f (k : Nat) (a0 : ByteArray) : Option (Int) := cambistref19_Unsigned.l0 k a0 0 0
theorem cambistref19_Unsigned.mono_l : ∀ k, (∀ y0 y1 y2, LeO (cambistref19_Unsigned.l0 k y0 y1 y2) (cambistref19_Unsigned.l0 (k + 1) y0 y1 y2))
 | 0 => fun _ _ _ r h => by simp [cambistref19_Unsigned.l0] at h
 | k + 1 => by
  have ih0 := cambistref19_Unsigned.mono_l k
  ·intro y0 y1 y2
   unfold cambistref19_Unsigned.l0
   repeat' first
   | (with_reducible exact ih0 _ _ _)
   | (with_reducible exact cambistref19_Decimal.mono _ _)
   | (with_reducible first | exact LeO.refl _ | exact LeO.none _ | refine LeO.ite ?_ ?_ | refine LeO.bind ?_ fun _ => ?_)
   | exact ih0 _ _ _
   | exact cambistref19_Decimal.mono _ _
theorem cambistref19_Unsigned.mono : ∀ a0 k, LeO (cambistref19_Unsigned.f k a0) (cambistref19_Unsigned.f (k + 1) a0) := by
 intro a0 k
 have ih0 := cambistref19_Unsigned.mono_l k
 unfold cambistref19_Unsigned.f
 repeat' first
   | (with_reducible exact ih0 _ _ _)
   | (with_reducible exact cambistref19_Decimal.mono _ _)
   | (with_reducible first | exact LeO.refl _ | exact LeO.none _ | refine LeO.ite ?_ ?_ | refine LeO.bind ?_ fun _ => ?_)
   | exact ih0 _ _ _
   | exact cambistref19_Decimal.mono _ _
set_option maxHeartbeats 8000000 in
set_option maxRecDepth 100000 in
theorem cambistref19_Unsigned.calls (k : Nat) (a0 : ByteArray) (r : Int) (w : World) (hG : Glob w) (h : cambistref19_Unsigned.f k a0 = some r) :
  Calls Tryz.prog 30 #[.string a0] w fun e w' => e = .returned (.int .u64 r) ∧ Below w.heap.size w w' := by
 have HG := a_ hG
 clear hG
 have HB := a_ (Below.refl w.heap.size w)
 have H : (cambistref19_Unsigned.l0 k a0 0 0) = some r := h
 clear h
 have H' := a_ H
 clear H
 go_enter Tryz.func30, Tryz.ntmps30
 go_wp2
 go_loopg [3, 4] k (fun kq v3 v4 w' => ∃ (x3_1 : Int) (x4_1 : Int), v3 = .int .u64 x3_1 ∧ v4 = .int .i64 x4_1 ∧ Aside0 (cambistref19_Unsigned.l0 kq a0 x3_1 x4_1 = some r) ∧ Aside0 (kq ≤ k) ∧ Aside0 (Below w.heap.size w w'))
 case atStart => exact ⟨(0), (0), z80_, z80_, H', ⟨Nat.le_refl _⟩, ⟨z45_⟩⟩
 case round =>
  clear H'
  obtain ⟨x3_1, x4_1, rfl, rfl, HA, HK1, HB⟩ := hrel
  cases gk with
  | zero => exact absurd HA.out (by simp [cambistref19_Unsigned.l0])
  | succ k1 =>
   have H := HA.out
   clear HA
   simp only [cambistref19_Unsigned.l0] at H
   by_cases c2 : x4_1 < (a0.size : Int)
   ·rw [if_pos c2] at H
    have c2b0 : decide (x4_1 < (a0.size : Int)) = true := decide_eq_true c2
    clear c2
    by_cases c3 : 0 ≤ x4_1
    ·rw [if_pos c3] at H
     have c3b0 : decide (0 ≤ x4_1) = true := decide_eq_true c3
     clear c3
     have H' := a_ H
     clear H
     have p4 : 0 ≤ (x4_1 : Int) := of_decide_eq_true z79_
     have q4 : x4_1 < (a0.size : Int) := of_decide_eq_true z79_
     have hx4 := bt_at a0 x4_1
     replace p4 := eq_true p4
     replace q4 := eq_true q4
     go_wp2
     go_roundg k1
     case measure => have := HK1.out; omega
     case rel => exact ⟨(IntKind.u64.wrap ((IntKind.u64.wrap (x3_1 * 10)) + (((bt a0 x4_1) - 48) % 256))), (wrap64 (x4_1 + 1)), z80_, z80_, H', ⟨z84_⟩, ⟨z45_⟩⟩
    ·rw [if_neg c3] at H
     exact absurd H (by simp)
   ·rw [if_neg c2] at H
    have c2b0 : decide (x4_1 < (a0.size : Int)) = false := decide_eq_false c2
    clear c2
    replace H := Option.bind_eq_some_iff.mp H
    obtain ⟨t232, A50, H⟩ := H
    replace H : (if t232.toList = a0.toList then (some x3_1) else (some 0)) = some r := H
    have A5 := a_ A50
    clear A50
    by_cases c6 : t232.toList = a0.toList
    ·rw [if_pos c6] at H
     have c6b0 : (t232.toList == a0.toList) = true := beq_iff_eq.mpr c6
     have c6b1 : (t232.toList != a0.toList) = false := bne_eq_false_iff_eq.mpr c6
     clear c6
     obtain rfl := Option.some.inj H
     go_wp2_with (first | ((with_reducible refine gate_callee (f := 21) rfl ?_); refine goesL_ (some 20) rfl rfl Tryz.func21 z85_ rfl #[.int .u64 x3_1] rfl z31_ ?_; (with_reducible refine (cambistref19_Decimal.calls k1 x3_1 t232 _ ?side1 A5.out).mono ?_); (case side1 => exact Glob.below HG.out z45_); rintro e w7 ⟨rfl, hb⟩; refine ⟨_, rfl, ?_⟩; have n0_ := a_ (below_step z45_ hb); clear HB; have HB := n0_; clear n0_; (try clear hb); (try clear hb2); (try clear hk); (try clear hi)))
     go_ret
     exact ⟨z76_, z45_⟩
    ·rw [if_neg c6] at H
     have c6b0 : (t232.toList == a0.toList) = false := beq_eq_false_iff_ne.mpr c6
     have c6b1 : (t232.toList != a0.toList) = true := bne_iff_ne.mpr c6
     obtain rfl := Option.some.inj H
     go_wp2_with (first | ((with_reducible refine gate_callee (f := 21) rfl ?_); refine goesL_ (some 20) rfl rfl Tryz.func21 z85_ rfl #[.int .u64 x3_1] rfl z31_ ?_; (with_reducible refine (cambistref19_Decimal.calls k1 x3_1 t232 _ ?side1 A5.out).mono ?_); (case side1 => exact Glob.below HG.out z45_); rintro e w8 ⟨rfl, hb⟩; refine ⟨_, rfl, ?_⟩; have n0_ := a_ (below_step z45_ hb); clear HB; have HB := n0_; clear n0_; (try clear hb); (try clear hb2); (try clear hk); (try clear hi)))
     go_ret
     exact ⟨z76_, z45_⟩

/-! ### cambistref01_Parse: function 51 -/
mutual
def cambistref01_Parse.j0 : Nat → ByteArray → ByteArray → Bool → Option (Int × Int)
 | 0, _, _, _ => none
 | k + 1, x0, x4, x5 => if x5 = true then (if 1 ≤ (x0.size : Int) then (cambistref01_Parse.j1 k x0 (x0.extract 1 x0.size) x5) else (none)) else (cambistref01_Parse.j1 k x0 x4 x5)
def cambistref01_Parse.j1 : Nat → ByteArray → ByteArray → Bool → Option (Int × Int)
 | 0, _, _, _ => none
 | k + 1, x0, x4, x5 => if (x4.size : Int) = 0 then (cambistref01_Parse.j2 k x0 x4 x5 true) else (cambistref01_Parse.j2 k x0 x4 x5 (decide ((x4.size : Int) > 19)))
def cambistref01_Parse.j2 : Nat → ByteArray → ByteArray → Bool → Bool → Option (Int × Int)
 | 0, _, _, _, _ => none
 | k + 1, x0, x4, x5, x28 => if x28 = true then (some (0, 11)) else (cambistref01_Parse.l0 k x0 x4 x5 0 0)
def cambistref01_Parse.l0 : Nat → ByteArray → ByteArray → Bool → Int → Int → Option (Int × Int)
 | 0, _, _, _, _, _ => none
 | k + 1, x0, x4, x5, x6, x7 => if x7 < (x4.size : Int) then (if 0 ≤ x7 then (if (bt x4 x7) < 48 then (some (0, 11)) else (if (bt x4 x7) > 57 then (some (0, 11)) else (cambistref01_Parse.l0 k x0 x4 x5 (IntKind.u64.wrap ((IntKind.u64.wrap (x6 * 10)) + (((bt x4 x7) - 48) % 256))) (wrap64 (x7 + 1))))) else (none)) else (if x5 = true then (cambistref01_Parse.j4 k x0 x5 x6 (decide (x6 > 9223372036854775808))) else (if x6 > 9223372036854775807 then (cambistref01_Parse.j4 k x0 x5 x6 true) else (cambistref01_Parse.j4 k x0 x5 x6 false)))
def cambistref01_Parse.j4 : Nat → ByteArray → Bool → Int → Bool → Option (Int × Int)
 | 0, _, _, _, _ => none
 | k + 1, x0, x5, x6, x65 => if x65 = true then (some (0, 11)) else (if x5 = true then ((cambistref01_Text.f k (wrap64 (IntKind.u64.wrap (-x6)))).bind fun t233 => (if t233.toList = x0.toList then (some (wrap64 (IntKind.u64.wrap (-x6)), 0)) else (some (0, 11)))) else ((cambistref01_Text.f k (wrap64 (x6))).bind fun t234 => (if t234.toList = x0.toList then (some (wrap64 (x6), 0)) else (some (0, 11)))))
end
def cambistref01_Parse.f (k : Nat) (a0 : ByteArray) : Option (Int × Int) := if (a0.size : Int) > 0 then (if 0 < (a0.size : Int) then (cambistref01_Parse.j0 k a0 a0 ((bt a0 0) == 45)) else (none)) else (cambistref01_Parse.j0 k a0 a0 false)
theorem cambistref01_Parse.mono_l : ∀ k, (∀ y0 y1 y2, LeO (cambistref01_Parse.j0 k y0 y1 y2) (cambistref01_Parse.j0 (k + 1) y0 y1 y2)) ∧ (∀ y0 y1 y2, LeO (cambistref01_Parse.j1 k y0 y1 y2) (cambistref01_Parse.j1 (k + 1) y0 y1 y2)) ∧ (∀ y0 y1 y2 y3, LeO (cambistref01_Parse.j2 k y0 y1 y2 y3) (cambistref01_Parse.j2 (k + 1) y0 y1 y2 y3)) ∧ (∀ y0 y1 y2 y3 y4, LeO (cambistref01_Parse.l0 k y0 y1 y2 y3 y4) (cambistref01_Parse.l0 (k + 1) y0 y1 y2 y3 y4)) ∧ (∀ y0 y1 y2 y3, LeO (cambistref01_Parse.j4 k y0 y1 y2 y3) (cambistref01_Parse.j4 (k + 1) y0 y1 y2 y3))
 | 0 => ⟨fun _ _ _ r h => by simp [cambistref01_Parse.j0] at h, fun _ _ _ r h => by simp [cambistref01_Parse.j1] at h, fun _ _ _ _ r h => by simp [cambistref01_Parse.j2] at h, fun _ _ _ _ _ r h => by simp [cambistref01_Parse.l0] at h, fun _ _ _ _ r h => by simp [cambistref01_Parse.j4] at h⟩
 | k + 1 => by
  obtain ⟨ih0, ih1, ih2, ih3, ih4⟩ := cambistref01_Parse.mono_l k
  refine ⟨?_, ?_, ?_, ?_, ?_⟩
  ·intro y0 y1 y2
   unfold cambistref01_Parse.j0
   repeat' first
   | (with_reducible exact ih0 _ _ _)
   | (with_reducible exact ih1 _ _ _)
   | (with_reducible exact ih2 _ _ _ _)
   | (with_reducible exact ih3 _ _ _ _ _)
   | (with_reducible exact ih4 _ _ _ _)
   | (with_reducible exact cambistref01_Text.mono _ _)
   | (with_reducible first | exact LeO.refl _ | exact LeO.none _ | refine LeO.ite ?_ ?_ | refine LeO.bind ?_ fun _ => ?_)
   | exact ih0 _ _ _
   | exact ih1 _ _ _
   | exact ih2 _ _ _ _
   | exact ih3 _ _ _ _ _
   | exact ih4 _ _ _ _
   | exact cambistref01_Text.mono _ _
  ·intro y0 y1 y2
   unfold cambistref01_Parse.j1
   repeat' first
   | (with_reducible exact ih0 _ _ _)
   | (with_reducible exact ih1 _ _ _)
   | (with_reducible exact ih2 _ _ _ _)
   | (with_reducible exact ih3 _ _ _ _ _)
   | (with_reducible exact ih4 _ _ _ _)
   | (with_reducible exact cambistref01_Text.mono _ _)
   | (with_reducible first | exact LeO.refl _ | exact LeO.none _ | refine LeO.ite ?_ ?_ | refine LeO.bind ?_ fun _ => ?_)
   | exact ih0 _ _ _
   | exact ih1 _ _ _
   | exact ih2 _ _ _ _
   | exact ih3 _ _ _ _ _
   | exact ih4 _ _ _ _
   | exact cambistref01_Text.mono _ _
  ·intro y0 y1 y2 y3
   unfold cambistref01_Parse.j2
   repeat' first
   | (with_reducible exact ih0 _ _ _)
   | (with_reducible exact ih1 _ _ _)
   | (with_reducible exact ih2 _ _ _ _)
   | (with_reducible exact ih3 _ _ _ _ _)
   | (with_reducible exact ih4 _ _ _ _)
   | (with_reducible exact cambistref01_Text.mono _ _)
   | (with_reducible first | exact LeO.refl _ | exact LeO.none _ | refine LeO.ite ?_ ?_ | refine LeO.bind ?_ fun _ => ?_)
   | exact ih0 _ _ _
   | exact ih1 _ _ _
   | exact ih2 _ _ _ _
   | exact ih3 _ _ _ _ _
   | exact ih4 _ _ _ _
   | exact cambistref01_Text.mono _ _
  ·intro y0 y1 y2 y3 y4
   unfold cambistref01_Parse.l0
   repeat' first
   | (with_reducible exact ih0 _ _ _)
   | (with_reducible exact ih1 _ _ _)
   | (with_reducible exact ih2 _ _ _ _)
   | (with_reducible exact ih3 _ _ _ _ _)
   | (with_reducible exact ih4 _ _ _ _)
   | (with_reducible exact cambistref01_Text.mono _ _)
   | (with_reducible first | exact LeO.refl _ | exact LeO.none _ | refine LeO.ite ?_ ?_ | refine LeO.bind ?_ fun _ => ?_)
   | exact ih0 _ _ _
   | exact ih1 _ _ _
   | exact ih2 _ _ _ _
   | exact ih3 _ _ _ _ _
   | exact ih4 _ _ _ _
   | exact cambistref01_Text.mono _ _
  ·intro y0 y1 y2 y3
   unfold cambistref01_Parse.j4
   repeat' first
   | (with_reducible exact ih0 _ _ _)
   | (with_reducible exact ih1 _ _ _)
   | (with_reducible exact ih2 _ _ _ _)
   | (with_reducible exact ih3 _ _ _ _ _)
   | (with_reducible exact ih4 _ _ _ _)
   | (with_reducible exact cambistref01_Text.mono _ _)
   | (with_reducible first | exact LeO.refl _ | exact LeO.none _ | refine LeO.ite ?_ ?_ | refine LeO.bind ?_ fun _ => ?_)
   | exact ih0 _ _ _
   | exact ih1 _ _ _
   | exact ih2 _ _ _ _
   | exact ih3 _ _ _ _ _
   | exact ih4 _ _ _ _
   | exact cambistref01_Text.mono _ _
theorem cambistref01_Parse.mono : ∀ a0 k, LeO (cambistref01_Parse.f k a0) (cambistref01_Parse.f (k + 1) a0) := by
 intro a0 k
 obtain ⟨ih0, ih1, ih2, ih3, ih4⟩ := cambistref01_Parse.mono_l k
 unfold cambistref01_Parse.f
 repeat' first
   | (with_reducible exact ih0 _ _ _)
   | (with_reducible exact ih1 _ _ _)
   | (with_reducible exact ih2 _ _ _ _)
   | (with_reducible exact ih3 _ _ _ _ _)
   | (with_reducible exact ih4 _ _ _ _)
   | (with_reducible exact cambistref01_Text.mono _ _)
   | (with_reducible first | exact LeO.refl _ | exact LeO.none _ | refine LeO.ite ?_ ?_ | refine LeO.bind ?_ fun _ => ?_)
   | exact ih0 _ _ _
   | exact ih1 _ _ _
   | exact ih2 _ _ _ _
   | exact ih3 _ _ _ _ _
   | exact ih4 _ _ _ _
   | exact cambistref01_Text.mono _ _
set_option maxHeartbeats 8000000 in
set_option maxRecDepth 100000 in
theorem cambistref01_Parse.calls (k : Nat) (a0 : ByteArray) (r1 : Int) (r2 : Int) (w : World) (hG : Glob w) (h : cambistref01_Parse.f k a0 = some (r1, r2)) :
  Calls Tryz.prog 51 #[.string a0] w fun e w' => e = .returned (.tuple #[.int .i64 r1, .int .i64 r2]) ∧ Below w.heap.size w w' := by
 have HG := a_ hG
 clear hG
 have HB := a_ (Below.refl w.heap.size w)
 have H : (if (a0.size : Int) > 0 then (if 0 < (a0.size : Int) then (cambistref01_Parse.j0 k a0 a0 ((bt a0 0) == 45)) else (none)) else (cambistref01_Parse.j0 k a0 a0 false)) = some (r1, r2) := h
 clear h
 have HC2 := a_ H
 clear H
 go_enter Tryz.func51, Tryz.ntmps51
 go_upto_region 2 with (fail)
 go_cut [5] (fun v5 wc => ∃ (kq : Nat) (x5_1 : Bool), v5 = .bool x5_1 ∧ Aside0 (cambistref01_Parse.j0 kq a0 a0 x5_1 = some (r1, r2)) ∧ Aside0 (kq ≤ k) ∧ Aside0 (Below w.heap.size w wc))
 case first =>
  have H := HC2.out
  clear HC2
  by_cases c3 : (a0.size : Int) > 0
  ·rw [if_pos c3] at H
   have c3b0 : decide (0 < (a0.size : Int)) = true := decide_eq_true c3
   have c3b1 : decide (0 < a0.size) = true := decide_eq_true (by omega)
   clear c3
   (first | rw [c3b0] | (simp only [i64_w, i32_w]; rw [c3b0]) | skip)
   by_cases c4 : 0 < (a0.size : Int)
   ·rw [if_pos c4] at H
    have c4b0 : decide (0 < (a0.size : Int)) = true := decide_eq_true c4
    have c4b1 : decide (0 < a0.size) = true := decide_eq_true (by omega)
    clear c4
    have H' := a_ H
    clear H
    have p5 : 0 ≤ (0 : Int) := (by omega)
    have q5 : 0 < a0.size := (by have : (0 : Int) < (a0.size : Int) := of_decide_eq_true z79_; omega)
    have hx5 : ∀ h : 0 < a0.size, ((a0[0]'h).toNat : Int) = bt a0 0 := bt_at a0 0
    clear p5
    have qi5 : (0 < (a0.size : Int)) = True := eq_true (of_decide_eq_true z79_)
    replace q5 := eq_true q5
    go_wp2
    go_meet
    case rel => exact ⟨_, (((bt a0 0) == 45)), z80_, H', ⟨z83_⟩, ⟨z45_⟩⟩
   ·rw [if_neg c4] at H
    exact absurd H (by simp)
  ·rw [if_neg c3] at H
   have c3b0 : decide (0 < (a0.size : Int)) = false := decide_eq_false c3
   have c3b1 : decide (0 < a0.size) = false := decide_eq_false (by omega)
   clear c3
   (first | rw [c3b0] | (simp only [i64_w, i32_w]; rw [c3b0]) | skip)
   have H' := a_ H
   clear H
   go_wp2
   go_meet
   case rel => exact ⟨_, (false), z80_, H', ⟨z83_⟩, ⟨z45_⟩⟩
 case rest =>
  clear HC2
  try clear p2
  try clear c3
  try clear c3b0
  try clear c3b1
  try clear c4
  try clear c4b0
  try clear c4b1
  try clear c5
  try clear p5
  try clear q5
  try clear hx5
  try clear qi5
  try clear p5
  try clear q5
  obtain ⟨kq, x5_1, rfl, HA, HJ1, HB⟩ := hcut
  cases kq with
  | zero => exact absurd HA.out (by simp [cambistref01_Parse.j0])
  | succ kj1 =>
   have H := HA.out
   clear HA
   simp only [cambistref01_Parse.j0] at H
   have HC6 := a_ H
   clear H
   go_upto_if 18 with (fail)
   go_cut [4] (fun v4 wc => ∃ (kq : Nat) (x4_5 : ByteArray), v4 = .string x4_5 ∧ Aside0 (cambistref01_Parse.j1 kq a0 x4_5 x5_1 = some (r1, r2)) ∧ Aside0 (kq ≤ kj1) ∧ Aside0 (Below w.heap.size w wc))
   case first =>
    have H := HC6.out
    clear HC6
    by_cases c7 : x5_1 = true
    ·subst c7
     have H1 : (if 1 ≤ (a0.size : Int) then (cambistref01_Parse.j1 kj1 a0 (a0.extract 1 a0.size) true) else (none)) = some (r1, r2) := by rw [if_pos rfl] at H; exact H
     clear H
     have H := H1
     clear H1
     by_cases c8 : 1 ≤ (a0.size : Int)
     ·rw [if_pos c8] at H
      have c8b0 := eq_true c8
      have c8b1 : decide (1 ≤ (a0.size : Int)) = true := decide_eq_true c8
      clear c8
      have H' := a_ H
      clear H
      go_wp2
      go_meet
      case rel => exact ⟨_, (a0.extract 1 a0.size), z80_, H', ⟨by have := HJ1.out; first | omega | exact Nat.le_refl _⟩, ⟨z45_⟩⟩
     ·rw [if_neg c8] at H
      exact absurd H (by simp)
    ·replace c7 := Bool.eq_false_iff.mpr c7
     subst c7
     have H1 : (cambistref01_Parse.j1 kj1 a0 a0 false) = some (r1, r2) := by rw [if_neg (show ¬ (false = true) by decide)] at H; exact H
     clear H
     have H := H1
     clear H1
     have H' := a_ H
     clear H
     go_wp2
     go_meet
     case rel => exact ⟨_, (a0), z80_, H', ⟨by have := HJ1.out; first | omega | exact Nat.le_refl _⟩, ⟨z45_⟩⟩
   case rest =>
    clear HC6
    try clear p2
    try clear c3
    try clear c3b0
    try clear c3b1
    try clear c4
    try clear c4b0
    try clear c4b1
    try clear c5
    try clear p5
    try clear q5
    try clear hx5
    try clear qi5
    try clear c7
    try clear c8
    try clear c8b0
    try clear c8b1
    try clear p2
    try clear p5
    try clear q5
    obtain ⟨kq, x4_5, rfl, HA, HJ5, HB⟩ := hcut
    cases kq with
    | zero => exact absurd HA.out (by simp [cambistref01_Parse.j1])
    | succ kj5 =>
     have H := HA.out
     clear HA
     simp only [cambistref01_Parse.j1] at H
     have HC9 := a_ H
     clear H
     go_upto_region 5 with (fail)
     go_cut [28] (fun v28 wc => ∃ (kq : Nat) (x28_8 : Bool), v28 = .bool x28_8 ∧ Aside0 (cambistref01_Parse.j2 kq a0 x4_5 x5_1 x28_8 = some (r1, r2)) ∧ Aside0 (kq ≤ kj5) ∧ Aside0 (Below w.heap.size w wc))
     case first =>
      have H := HC9.out
      clear HC9
      by_cases c10 : (x4_5.size : Int) = 0
      ·rw [if_pos c10] at H
       have c10b0 : ((x4_5.size : Int) == 0) = true := beq_iff_eq.mpr c10
       have c10b1 : ((x4_5.size : Int) != 0) = false := bne_eq_false_iff_eq.mpr c10
       clear c10
       (first | rw [c10b0] | (simp only [i64_w, i32_w]; rw [c10b0]) | skip)
       have H' := a_ H
       clear H
       go_wp2
       go_meet
       case rel => exact ⟨_, (true), z80_, H', ⟨by have := HJ1.out; have := HJ5.out; first | omega | exact Nat.le_refl _⟩, ⟨z45_⟩⟩
      ·rw [if_neg c10] at H
       have c10b0 : ((x4_5.size : Int) == 0) = false := beq_eq_false_iff_ne.mpr c10
       have c10b1 : ((x4_5.size : Int) != 0) = true := bne_iff_ne.mpr c10
       (first | rw [c10b0] | (simp only [i64_w, i32_w]; rw [c10b0]) | skip)
       have H' := a_ H
       clear H
       go_wp2
       go_meet
       case rel => exact ⟨_, (decide ((x4_5.size : Int) > 19)), z80_, H', ⟨by have := HJ1.out; have := HJ5.out; first | omega | exact Nat.le_refl _⟩, ⟨z45_⟩⟩
     case rest =>
      clear HC9
      try clear c1
      try clear p2
      try clear c3
      try clear c3b0
      try clear c3b1
      try clear c4
      try clear c4b0
      try clear c4b1
      try clear c5
      try clear p5
      try clear q5
      try clear hx5
      try clear qi5
      try clear c7
      try clear c8
      try clear c8b0
      try clear c8b1
      try clear c10
      try clear c10b0
      try clear c10b1
      try clear p2
      try clear p5
      try clear q5
      obtain ⟨kq, x28_8, rfl, HA, HJ8, HB⟩ := hcut
      cases kq with
      | zero => exact absurd HA.out (by simp [cambistref01_Parse.j2])
      | succ kj8 =>
       have H := HA.out
       clear HA
       simp only [cambistref01_Parse.j2] at H
       by_cases c11 : x28_8 = true
       ·subst c11
        have H1 : (some (0, 11)) = some (r1, r2) := by rw [if_pos rfl] at H; exact H
        clear H
        have H := H1
        clear H1
        simp only [Option.some.injEq, Prod.mk.injEq] at H
        obtain ⟨rfl, rfl⟩ := H
        go_wp2
        go_ret2
        exact ⟨z76_, z45_⟩
       ·replace c11 := Bool.eq_false_iff.mpr c11
        subst c11
        have H1 : (cambistref01_Parse.l0 kj8 a0 x4_5 x5_1 0 0) = some (r1, r2) := by rw [if_neg (show ¬ (false = true) by decide)] at H; exact H
        clear H
        have H := H1
        clear H1
        have H' := a_ H
        clear H
        go_wp2
        go_loopg [6, 7] kj8 (fun kq v6 v7 w' => ∃ (x6_4 : Int) (x7_4 : Int), v6 = .int .u64 x6_4 ∧ v7 = .int .i64 x7_4 ∧ Aside0 (cambistref01_Parse.l0 kq a0 x4_5 x5_1 x6_4 x7_4 = some (r1, r2)) ∧ Aside0 (kq ≤ kj8) ∧ Aside0 (Below w.heap.size w w'))
        case atStart => exact ⟨(0), (0), z80_, z80_, H', ⟨Nat.le_refl _⟩, ⟨z45_⟩⟩
        case round =>
         clear H'
         try clear c1
         try clear p2
         try clear c3
         try clear c3b0
         try clear c3b1
         try clear c4
         try clear c4b0
         try clear c4b1
         try clear c5
         try clear p5
         try clear q5
         try clear hx5
         try clear qi5
         try clear c7
         try clear c8
         try clear c8b0
         try clear c8b1
         try clear c10
         try clear c10b0
         try clear c10b1
         try clear c11
         try clear p2
         try clear p5
         try clear q5
         obtain ⟨x6_4, x7_4, rfl, rfl, HA, HK4, HB⟩ := hrel
         cases gk with
         | zero => exact absurd HA.out (by simp [cambistref01_Parse.l0])
         | succ k4 =>
          have H := HA.out
          clear HA
          simp only [cambistref01_Parse.l0] at H
          by_cases c12 : x7_4 < (x4_5.size : Int)
          ·rw [if_pos c12] at H
           have c12b0 : decide (x7_4 < (x4_5.size : Int)) = true := decide_eq_true c12
           clear c12
           by_cases c13 : 0 ≤ x7_4
           ·rw [if_pos c13] at H
            have c13b0 : decide (0 ≤ x7_4) = true := decide_eq_true c13
            clear c13
            by_cases c15 : (bt x4_5 x7_4) < 48
            ·rw [if_pos c15] at H
             have c15b0 : decide ((bt x4_5 x7_4) < 48) = true := decide_eq_true c15
             clear c15
             simp only [Option.some.injEq, Prod.mk.injEq] at H
             obtain ⟨rfl, rfl⟩ := H
             have p14 : 0 ≤ (x7_4 : Int) := of_decide_eq_true z79_
             have q14 : x7_4 < (x4_5.size : Int) := of_decide_eq_true z79_
             have hx14 := bt_at x4_5 x7_4
             replace p14 := eq_true p14
             replace q14 := eq_true q14
             go_wp2
             go_ret2
             exact ⟨z76_, z45_⟩
            ·rw [if_neg c15] at H
             have c15b0 : decide ((bt x4_5 x7_4) < 48) = false := decide_eq_false c15
             clear c15
             by_cases c17 : (bt x4_5 x7_4) > 57
             ·rw [if_pos c17] at H
              have c17b0 : decide (57 < (bt x4_5 x7_4)) = true := decide_eq_true c17
              clear c17
              simp only [Option.some.injEq, Prod.mk.injEq] at H
              obtain ⟨rfl, rfl⟩ := H
              have p14 : 0 ≤ (x7_4 : Int) := of_decide_eq_true z79_
              have q14 : x7_4 < (x4_5.size : Int) := of_decide_eq_true z79_
              have hx14 := bt_at x4_5 x7_4
              replace p14 := eq_true p14
              replace q14 := eq_true q14
              have p16 : 0 ≤ (x7_4 : Int) := of_decide_eq_true z79_
              have q16 : x7_4 < (x4_5.size : Int) := of_decide_eq_true z79_
              have hx16 := bt_at x4_5 x7_4
              replace p16 := eq_true p16
              replace q16 := eq_true q16
              go_wp2
              go_ret2
              exact ⟨z76_, z45_⟩
             ·rw [if_neg c17] at H
              have c17b0 : decide (57 < (bt x4_5 x7_4)) = false := decide_eq_false c17
              clear c17
              have H' := a_ H
              clear H
              have p14 : 0 ≤ (x7_4 : Int) := of_decide_eq_true z79_
              have q14 : x7_4 < (x4_5.size : Int) := of_decide_eq_true z79_
              have hx14 := bt_at x4_5 x7_4
              replace p14 := eq_true p14
              replace q14 := eq_true q14
              have p16 : 0 ≤ (x7_4 : Int) := of_decide_eq_true z79_
              have q16 : x7_4 < (x4_5.size : Int) := of_decide_eq_true z79_
              have hx16 := bt_at x4_5 x7_4
              replace p16 := eq_true p16
              replace q16 := eq_true q16
              have p18 : 0 ≤ (x7_4 : Int) := of_decide_eq_true z79_
              have q18 : x7_4 < (x4_5.size : Int) := of_decide_eq_true z79_
              have hx18 := bt_at x4_5 x7_4
              replace p18 := eq_true p18
              replace q18 := eq_true q18
              go_wp2
              go_roundg k4
              case measure => have := HJ1.out; have := HJ5.out; have := HJ8.out; have := HK4.out; omega
              case rel => exact ⟨(IntKind.u64.wrap ((IntKind.u64.wrap (x6_4 * 10)) + (((bt x4_5 x7_4) - 48) % 256))), (wrap64 (x7_4 + 1)), z80_, z80_, H', ⟨by have := HJ1.out; have := HJ5.out; have := HJ8.out; have := HK4.out; omega⟩, ⟨z45_⟩⟩
           ·rw [if_neg c13] at H
            exact absurd H (by simp)
          ·rw [if_neg c12] at H
           have c12b0 : decide (x7_4 < (x4_5.size : Int)) = false := decide_eq_false c12
           clear c12
           have HC19 := a_ H
           clear H
           go_upto_region 14 with (fail)
           go_cut [65] (fun v65 wc => ∃ (kq : Nat) (x65_18 : Bool), v65 = .bool x65_18 ∧ Aside0 (cambistref01_Parse.j4 kq a0 x5_1 x6_4 x65_18 = some (r1, r2)) ∧ Aside0 (kq ≤ k4) ∧ Aside0 (Below w.heap.size w wc))
           case first =>
            have H := HC19.out
            clear HC19
            by_cases c20 : x5_1 = true
            ·subst c20
             have H1 : (cambistref01_Parse.j4 k4 a0 true x6_4 (decide (x6_4 > 9223372036854775808))) = some (r1, r2) := by rw [if_pos rfl] at H; exact H
             clear H
             have H := H1
             clear H1
             have H' := a_ H
             clear H
             go_wp2
             go_meet
             case rel => exact ⟨_, (decide (x6_4 > 9223372036854775808)), z80_, H', ⟨z57_⟩, ⟨z45_⟩⟩
            ·replace c20 := Bool.eq_false_iff.mpr c20
             subst c20
             have H1 : (if x6_4 > 9223372036854775807 then (cambistref01_Parse.j4 k4 a0 false x6_4 true) else (cambistref01_Parse.j4 k4 a0 false x6_4 false)) = some (r1, r2) := by rw [if_neg (show ¬ (false = true) by decide)] at H; exact H
             clear H
             have H := H1
             clear H1
             by_cases c21 : x6_4 > 9223372036854775807
             ·rw [if_pos c21] at H
              have c21b0 : decide (9223372036854775807 < x6_4) = true := decide_eq_true c21
              clear c21
              (first | rw [c21b0] | (simp only [i64_w, i32_w]; rw [c21b0]) | skip)
              have H' := a_ H
              clear H
              go_wp2
              go_meet
              case rel => exact ⟨_, (true), z80_, H', ⟨z57_⟩, ⟨z45_⟩⟩
             ·rw [if_neg c21] at H
              have c21b0 : decide (9223372036854775807 < x6_4) = false := decide_eq_false c21
              clear c21
              (first | rw [c21b0] | (simp only [i64_w, i32_w]; rw [c21b0]) | skip)
              have H' := a_ H
              clear H
              go_wp2
              go_meet
              case rel => exact ⟨_, (false), z80_, H', ⟨z57_⟩, ⟨z45_⟩⟩
           case rest =>
            clear HC19
            try clear c1
            try clear p1
            try clear q1
            try clear hx1
            try clear c2
            try clear p2
            try clear c3
            try clear c3b0
            try clear c3b1
            try clear c4
            try clear c4b0
            try clear c4b1
            try clear c5
            try clear p5
            try clear q5
            try clear hx5
            try clear qi5
            try clear p6
            try clear c7
            try clear c8
            try clear c8b0
            try clear c8b1
            try clear c10
            try clear c10b0
            try clear c10b1
            try clear c11
            try clear c12
            try clear c12b0
            try clear c13
            try clear c13b0
            try clear p14
            try clear q14
            try clear hx14
            try clear c15
            try clear c15b0
            try clear p16
            try clear q16
            try clear hx16
            try clear c17
            try clear c17b0
            try clear p18
            try clear q18
            try clear hx18
            try clear c20
            try clear c21
            try clear c21b0
            try clear p14
            try clear p16
            try clear p18
            try clear p2
            try clear p5
            try clear q14
            try clear q16
            try clear q18
            try clear q5
            obtain ⟨kq, x65_18, rfl, HA, HJ18, HB⟩ := hcut
            cases kq with
            | zero => exact absurd HA.out (by simp [cambistref01_Parse.j4])
            | succ kj18 =>
             have H := HA.out
             clear HA
             simp only [cambistref01_Parse.j4] at H
             by_cases c22 : x65_18 = true
             ·subst c22
              have H1 : (some (0, 11)) = some (r1, r2) := by rw [if_pos rfl] at H; exact H
              clear H
              have H := H1
              clear H1
              simp only [Option.some.injEq, Prod.mk.injEq] at H
              obtain ⟨rfl, rfl⟩ := H
              go_wp2
              go_ret2
              exact ⟨z76_, z45_⟩
             ·replace c22 := Bool.eq_false_iff.mpr c22
              subst c22
              have H1 : (if x5_1 = true then ((cambistref01_Text.f kj18 (wrap64 (IntKind.u64.wrap (-x6_4)))).bind fun t233 => (if t233.toList = a0.toList then (some (wrap64 (IntKind.u64.wrap (-x6_4)), 0)) else (some (0, 11)))) else ((cambistref01_Text.f kj18 (wrap64 (x6_4))).bind fun t234 => (if t234.toList = a0.toList then (some (wrap64 (x6_4), 0)) else (some (0, 11))))) = some (r1, r2) := by rw [if_neg (show ¬ (false = true) by decide)] at H; exact H
              clear H
              have H := H1
              clear H1
              by_cases c23 : x5_1 = true
              ·subst c23
               have H1 : ((cambistref01_Text.f kj18 (wrap64 (IntKind.u64.wrap (-x6_4)))).bind fun t233 => (if t233.toList = a0.toList then (some (wrap64 (IntKind.u64.wrap (-x6_4)), 0)) else (some (0, 11)))) = some (r1, r2) := by rw [if_pos rfl] at H; exact H
               clear H
               have H := H1
               clear H1
               replace H := Option.bind_eq_some_iff.mp H
               obtain ⟨t233, A240, H⟩ := H
               replace H : (if t233.toList = a0.toList then (some (wrap64 (IntKind.u64.wrap (-x6_4)), 0)) else (some (0, 11))) = some (r1, r2) := H
               have A24 := a_ A240
               clear A240
               by_cases c25 : t233.toList = a0.toList
               ·rw [if_pos c25] at H
                have c25b0 : (t233.toList == a0.toList) = true := beq_iff_eq.mpr c25
                have c25b1 : (t233.toList != a0.toList) = false := bne_eq_false_iff_eq.mpr c25
                clear c25
                simp only [Option.some.injEq, Prod.mk.injEq] at H
                obtain ⟨rfl, rfl⟩ := H
                go_wp2_with (first | ((with_reducible refine gate_callee (f := 22) rfl ?_); refine goesL_ (some 73) rfl rfl Tryz.func22 z85_ rfl #[.int .i64 (wrap64 (IntKind.u64.wrap (-x6_4)))] rfl z31_ ?_; (with_reducible refine (cambistref01_Text.calls kj18 (wrap64 (IntKind.u64.wrap (-x6_4))) t233 _ ?side1 A24.out).mono ?_); (case side1 => exact Glob.below HG.out z45_); rintro e w26 ⟨rfl, hb⟩; refine ⟨_, rfl, ?_⟩; have n0_ := a_ (below_step z45_ hb); clear HB; have HB := n0_; clear n0_; (try clear hb); (try clear hb2); (try clear hk); (try clear hi)))
                go_ret2
                exact ⟨z76_, z45_⟩
               ·rw [if_neg c25] at H
                have c25b0 : (t233.toList == a0.toList) = false := beq_eq_false_iff_ne.mpr c25
                have c25b1 : (t233.toList != a0.toList) = true := bne_iff_ne.mpr c25
                simp only [Option.some.injEq, Prod.mk.injEq] at H
                obtain ⟨rfl, rfl⟩ := H
                go_wp2_with (first | ((with_reducible refine gate_callee (f := 22) rfl ?_); refine goesL_ (some 73) rfl rfl Tryz.func22 z85_ rfl #[.int .i64 (wrap64 (IntKind.u64.wrap (-x6_4)))] rfl z31_ ?_; (with_reducible refine (cambistref01_Text.calls kj18 (wrap64 (IntKind.u64.wrap (-x6_4))) t233 _ ?side1 A24.out).mono ?_); (case side1 => exact Glob.below HG.out z45_); rintro e w27 ⟨rfl, hb⟩; refine ⟨_, rfl, ?_⟩; have n0_ := a_ (below_step z45_ hb); clear HB; have HB := n0_; clear n0_; (try clear hb); (try clear hb2); (try clear hk); (try clear hi)))
                go_ret2
                exact ⟨z76_, z45_⟩
              ·replace c23 := Bool.eq_false_iff.mpr c23
               subst c23
               have H1 : ((cambistref01_Text.f kj18 (wrap64 (x6_4))).bind fun t234 => (if t234.toList = a0.toList then (some (wrap64 (x6_4), 0)) else (some (0, 11)))) = some (r1, r2) := by rw [if_neg (show ¬ (false = true) by decide)] at H; exact H
               clear H
               have H := H1
               clear H1
               replace H := Option.bind_eq_some_iff.mp H
               obtain ⟨t234, A280, H⟩ := H
               replace H : (if t234.toList = a0.toList then (some (wrap64 (x6_4), 0)) else (some (0, 11))) = some (r1, r2) := H
               have A28 := a_ A280
               clear A280
               by_cases c29 : t234.toList = a0.toList
               ·rw [if_pos c29] at H
                have c29b0 : (t234.toList == a0.toList) = true := beq_iff_eq.mpr c29
                have c29b1 : (t234.toList != a0.toList) = false := bne_eq_false_iff_eq.mpr c29
                clear c29
                simp only [Option.some.injEq, Prod.mk.injEq] at H
                obtain ⟨rfl, rfl⟩ := H
                go_wp2_with (first | ((with_reducible refine gate_callee (f := 22) rfl ?_); refine goesL_ (some 73) rfl rfl Tryz.func22 z85_ rfl #[.int .i64 (wrap64 (x6_4))] rfl z31_ ?_; (with_reducible refine (cambistref01_Text.calls kj18 (wrap64 (x6_4)) t234 _ ?side1 A28.out).mono ?_); (case side1 => exact Glob.below HG.out z45_); rintro e w30 ⟨rfl, hb⟩; refine ⟨_, rfl, ?_⟩; have n0_ := a_ (below_step z45_ hb); clear HB; have HB := n0_; clear n0_; (try clear hb); (try clear hb2); (try clear hk); (try clear hi)))
                go_ret2
                exact ⟨z76_, z45_⟩
               ·rw [if_neg c29] at H
                have c29b0 : (t234.toList == a0.toList) = false := beq_eq_false_iff_ne.mpr c29
                have c29b1 : (t234.toList != a0.toList) = true := bne_iff_ne.mpr c29
                simp only [Option.some.injEq, Prod.mk.injEq] at H
                obtain ⟨rfl, rfl⟩ := H
                go_wp2_with (first | ((with_reducible refine gate_callee (f := 22) rfl ?_); refine goesL_ (some 73) rfl rfl Tryz.func22 z85_ rfl #[.int .i64 (wrap64 (x6_4))] rfl z31_ ?_; (with_reducible refine (cambistref01_Text.calls kj18 (wrap64 (x6_4)) t234 _ ?side1 A28.out).mono ?_); (case side1 => exact Glob.below HG.out z45_); rintro e w31 ⟨rfl, hb⟩; refine ⟨_, rfl, ?_⟩; have n0_ := a_ (below_step z45_ hb); clear HB; have HB := n0_; clear n0_; (try clear hb); (try clear hb2); (try clear hk); (try clear hi)))
                go_ret2
                exact ⟨z76_, z45_⟩

/-! ### cambistref19_amount: function 31 -/
def cambistref19_amount.f (k : Nat) (a0 : ByteArray) : Option (Int) := (cambistref01_Parse.f k a0).bind fun bt235 => (some bt235.1)
theorem cambistref19_amount.mono : ∀ a0 k, LeO (cambistref19_amount.f k a0) (cambistref19_amount.f (k + 1) a0) := by
 intro a0 k
 unfold cambistref19_amount.f
 repeat' first
   | (with_reducible exact cambistref01_Parse.mono _ _)
   | (with_reducible first | exact LeO.refl _ | exact LeO.none _ | refine LeO.ite ?_ ?_ | refine LeO.bind ?_ fun _ => ?_)
   | exact cambistref01_Parse.mono _ _
set_option maxHeartbeats 8000000 in
set_option maxRecDepth 100000 in
theorem cambistref19_amount.calls (k : Nat) (a0 : ByteArray) (r : Int) (w : World) (hG : Glob w) (h : cambistref19_amount.f k a0 = some r) :
  Calls Tryz.prog 31 #[.string a0] w fun e w' => e = .returned (.int .i64 r) ∧ Below w.heap.size w w' := by
 have HG := a_ hG
 clear hG
 have HB := a_ (Below.refl w.heap.size w)
 have H : ((cambistref01_Parse.f k a0).bind fun bt235 => (some bt235.1)) = some r := h
 clear h
 replace H := Option.bind_eq_some_iff.mp H
 obtain ⟨⟨t235, t236⟩, A20, H⟩ := H
 replace H : (some t235) = some r := H
 have A2 := a_ A20
 clear A20
 obtain rfl := Option.some.inj H
 go_enter Tryz.func31, Tryz.ntmps31
 go_wp2_with (first | ((with_reducible refine gate_callee (f := 51) rfl ?_); refine goesL_ (some 7) rfl rfl Tryz.func51 z85_ rfl #[.string a0] rfl z31_ ?_; (with_reducible refine (cambistref01_Parse.calls k a0 t235 t236 _ ?side1 A2.out).mono ?_); (case side1 => exact Glob.below HG.out z45_); rintro e w3 ⟨rfl, hb⟩; refine ⟨_, rfl, ?_⟩; have n0_ := a_ (below_step z45_ hb); clear HB; have HB := n0_; clear n0_; (try clear hb); (try clear hb2); (try clear hk); (try clear hi)))
 go_ret
 exact ⟨z76_, z45_⟩

end Go.Proofs.YtnngbnhbmgdkoaaGreatDoor.P
