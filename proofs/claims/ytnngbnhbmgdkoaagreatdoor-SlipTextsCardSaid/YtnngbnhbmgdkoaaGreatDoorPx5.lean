-- Laid by wip/tools/cprint.py of this claim's own repo (over the kit's print).
import Derived.Test.YtnngbnhbmgdkoaaGreatDoorSq
import Derived.Test.YtnngbnhbmgdkoaaGreatDoorPx0
import Derived.Test.YtnngbnhbmgdkoaaGreatDoorPx4
namespace Go.Proofs.YtnngbnhbmgdkoaaGreatDoor.P
open Go.RowKit Go.Proofs.YtnngbnhbmgdkoaaGreatDoor.E Go.Proofs.YtnngbnhbmgdkoaaGreatDoorW.PrintWords Go.Proofs.YtnngbnhbmgdkoaaGreatDoorW.PrintLast
set_option linter.unusedVariables false
set_option linter.unusedSimpArgs false

/-! ### cambistref01_Sum: function 55 -/
mutual
def cambistref01_Sum.l0 : Nat → List Int → List Int → List Int → Int → Option (Int × Int)
 | 0, _, _, _, _ => none
 | k + 1, x0, x4, x5, x6 => if x6 < (x0.length : Int) then (if 0 ≤ x6 then (if (rd x0 x6) ≥ 0 then (if x4.length < 17592186044416 then (cambistref01_Sum.l0 k x0 (x4 ++ [rd x0 x6]) x5 (wrap64 (x6 + 1))) else (none)) else (if x5.length < 17592186044416 then (cambistref01_Sum.l0 k x0 x4 (x5 ++ [rd x0 x6]) (wrap64 (x6 + 1))) else (none))) else (none)) else (cambistref01_Sum.l1 k x4 x5 0)
def cambistref01_Sum.l1 : Nat → List Int → List Int → Int → Option (Int × Int)
 | 0, _, _, _ => none
 | k + 1, x4, x5, x7 => if (x4.length : Int) > 0 then (cambistref01_Sum.j2 k x4 x5 x7 true) else (cambistref01_Sum.j2 k x4 x5 x7 (decide ((x5.length : Int) > 0)))
def cambistref01_Sum.j2 : Nat → List Int → List Int → Int → Bool → Option (Int × Int)
 | 0, _, _, _, _ => none
 | k + 1, x4, x5, x7, x44 => if x44 = true then (if (x4.length : Int) > 0 then (if x7 < 0 then (cambistref01_Sum.j3 k x4 x5 x7 true) else (if (x5.length : Int) = 0 then (cambistref01_Sum.j3 k x4 x5 x7 true) else (cambistref01_Sum.j3 k x4 x5 x7 ((x5.length : Int) == 0)))) else (cambistref01_Sum.j3 k x4 x5 x7 ((x5.length : Int) == 0))) else (some (x7, 0))
def cambistref01_Sum.j3 : Nat → List Int → List Int → Int → Bool → Option (Int × Int)
 | 0, _, _, _, _ => none
 | k + 1, x4, x5, x7, x61 => if x61 = true then (if 0 < (x4.length : Int) then ((cambistref01_Add.f x7 (rd x4 0)).bind fun bt168 => (if bt168.2 = 0 then (if 1 ≤ (x4.length : Int) then (cambistref01_Sum.l1 k (x4.drop (1 : Int).toNat) x5 bt168.1) else (none)) else (some (0, bt168.2)))) else (none)) else (if (x4.length : Int) > 0 then (if x7 ≥ 0 then (cambistref01_Sum.j4 k x4 x5 x7 true) else (cambistref01_Sum.j4 k x4 x5 x7 ((x4.length : Int) == 0))) else (cambistref01_Sum.j4 k x4 x5 x7 ((x4.length : Int) == 0)))
def cambistref01_Sum.j4 : Nat → List Int → List Int → Int → Bool → Option (Int × Int)
 | 0, _, _, _, _ => none
 | k + 1, x4, x5, x7, x87 => if x87 = true then (if 0 < (x5.length : Int) then ((cambistref01_Add.f x7 (rd x5 0)).bind fun bt174 => (if bt174.2 = 0 then (if 1 ≤ (x5.length : Int) then (cambistref01_Sum.l1 k x4 (x5.drop (1 : Int).toNat) bt174.1) else (none)) else (some (0, bt174.2)))) else (none)) else (cambistref01_Sum.l1 k x4 x5 x7)
end
def cambistref01_Sum.f (k : Nat) (l0 : List Int) : Option (Int × Int) := cambistref01_Sum.l0 k l0 ([] : List Int) ([] : List Int) 0
theorem cambistref01_Sum.mono_l : ∀ k, (∀ y0 y1 y2 y3, LeO (cambistref01_Sum.l0 k y0 y1 y2 y3) (cambistref01_Sum.l0 (k + 1) y0 y1 y2 y3)) ∧ (∀ y0 y1 y2, LeO (cambistref01_Sum.l1 k y0 y1 y2) (cambistref01_Sum.l1 (k + 1) y0 y1 y2)) ∧ (∀ y0 y1 y2 y3, LeO (cambistref01_Sum.j2 k y0 y1 y2 y3) (cambistref01_Sum.j2 (k + 1) y0 y1 y2 y3)) ∧ (∀ y0 y1 y2 y3, LeO (cambistref01_Sum.j3 k y0 y1 y2 y3) (cambistref01_Sum.j3 (k + 1) y0 y1 y2 y3)) ∧ (∀ y0 y1 y2 y3, LeO (cambistref01_Sum.j4 k y0 y1 y2 y3) (cambistref01_Sum.j4 (k + 1) y0 y1 y2 y3))
 | 0 => ⟨fun _ _ _ _ r h => by simp [cambistref01_Sum.l0] at h, fun _ _ _ r h => by simp [cambistref01_Sum.l1] at h, fun _ _ _ _ r h => by simp [cambistref01_Sum.j2] at h, fun _ _ _ _ r h => by simp [cambistref01_Sum.j3] at h, fun _ _ _ _ r h => by simp [cambistref01_Sum.j4] at h⟩
 | k + 1 => by
  obtain ⟨ih0, ih1, ih2, ih3, ih4⟩ := cambistref01_Sum.mono_l k
  refine ⟨?_, ?_, ?_, ?_, ?_⟩
  ·intro y0 y1 y2 y3
   unfold cambistref01_Sum.l0
   repeat' first
   | (with_reducible exact ih0 _ _ _ _)
   | (with_reducible exact ih1 _ _ _)
   | (with_reducible exact ih2 _ _ _ _)
   | (with_reducible exact ih3 _ _ _ _)
   | (with_reducible exact ih4 _ _ _ _)
   | (with_reducible first | exact LeO.refl _ | exact LeO.none _ | refine LeO.ite ?_ ?_ | refine LeO.bind ?_ fun _ => ?_)
   | exact ih0 _ _ _ _
   | exact ih1 _ _ _
   | exact ih2 _ _ _ _
   | exact ih3 _ _ _ _
   | exact ih4 _ _ _ _
  ·intro y0 y1 y2
   unfold cambistref01_Sum.l1
   repeat' first
   | (with_reducible exact ih0 _ _ _ _)
   | (with_reducible exact ih1 _ _ _)
   | (with_reducible exact ih2 _ _ _ _)
   | (with_reducible exact ih3 _ _ _ _)
   | (with_reducible exact ih4 _ _ _ _)
   | (with_reducible first | exact LeO.refl _ | exact LeO.none _ | refine LeO.ite ?_ ?_ | refine LeO.bind ?_ fun _ => ?_)
   | exact ih0 _ _ _ _
   | exact ih1 _ _ _
   | exact ih2 _ _ _ _
   | exact ih3 _ _ _ _
   | exact ih4 _ _ _ _
  ·intro y0 y1 y2 y3
   unfold cambistref01_Sum.j2
   repeat' first
   | (with_reducible exact ih0 _ _ _ _)
   | (with_reducible exact ih1 _ _ _)
   | (with_reducible exact ih2 _ _ _ _)
   | (with_reducible exact ih3 _ _ _ _)
   | (with_reducible exact ih4 _ _ _ _)
   | (with_reducible first | exact LeO.refl _ | exact LeO.none _ | refine LeO.ite ?_ ?_ | refine LeO.bind ?_ fun _ => ?_)
   | exact ih0 _ _ _ _
   | exact ih1 _ _ _
   | exact ih2 _ _ _ _
   | exact ih3 _ _ _ _
   | exact ih4 _ _ _ _
  ·intro y0 y1 y2 y3
   unfold cambistref01_Sum.j3
   repeat' first
   | (with_reducible exact ih0 _ _ _ _)
   | (with_reducible exact ih1 _ _ _)
   | (with_reducible exact ih2 _ _ _ _)
   | (with_reducible exact ih3 _ _ _ _)
   | (with_reducible exact ih4 _ _ _ _)
   | (with_reducible first | exact LeO.refl _ | exact LeO.none _ | refine LeO.ite ?_ ?_ | refine LeO.bind ?_ fun _ => ?_)
   | exact ih0 _ _ _ _
   | exact ih1 _ _ _
   | exact ih2 _ _ _ _
   | exact ih3 _ _ _ _
   | exact ih4 _ _ _ _
  ·intro y0 y1 y2 y3
   unfold cambistref01_Sum.j4
   repeat' first
   | (with_reducible exact ih0 _ _ _ _)
   | (with_reducible exact ih1 _ _ _)
   | (with_reducible exact ih2 _ _ _ _)
   | (with_reducible exact ih3 _ _ _ _)
   | (with_reducible exact ih4 _ _ _ _)
   | (with_reducible first | exact LeO.refl _ | exact LeO.none _ | refine LeO.ite ?_ ?_ | refine LeO.bind ?_ fun _ => ?_)
   | exact ih0 _ _ _ _
   | exact ih1 _ _ _
   | exact ih2 _ _ _ _
   | exact ih3 _ _ _ _
   | exact ih4 _ _ _ _
theorem cambistref01_Sum.mono : ∀ a0 k, LeO (cambistref01_Sum.f k a0) (cambistref01_Sum.f (k + 1) a0) := by
 intro a0 k
 obtain ⟨ih0, ih1, ih2, ih3, ih4⟩ := cambistref01_Sum.mono_l k
 unfold cambistref01_Sum.f
 repeat' first
   | (with_reducible exact ih0 _ _ _ _)
   | (with_reducible exact ih1 _ _ _)
   | (with_reducible exact ih2 _ _ _ _)
   | (with_reducible exact ih3 _ _ _ _)
   | (with_reducible exact ih4 _ _ _ _)
   | (with_reducible first | exact LeO.refl _ | exact LeO.none _ | refine LeO.ite ?_ ?_ | refine LeO.bind ?_ fun _ => ?_)
   | exact ih0 _ _ _ _
   | exact ih1 _ _ _
   | exact ih2 _ _ _ _
   | exact ih3 _ _ _ _
   | exact ih4 _ _ _ _
set_option maxHeartbeats 8000000 in
set_option maxRecDepth 100000 in
theorem cambistref01_Sum.calls (k : Nat) (A0 : Option Addr) (c0 : Nat) (l0 : List Int) (r1 : Int) (r2 : Int) (w : World) (hG : Glob w) (hr0 : Kd.C (Kd.int .i64) w A0 l0.length l0) (hc0 : l0.length ≤ c0) (h : cambistref01_Sum.f k l0 = some (r1, r2)) :
  Calls Tryz.prog 55 #[.slice A0 l0.length c0] w fun e w' => e = .returned (.tuple #[.int .i64 r1, .int .i64 r2]) ∧ Below w.heap.size w w' := by
 have HG := a_ hG
 clear hG
 have HR0 := a_ hr0
 have HC0 := a_ hc0
 clear hr0 hc0
 have HB := a_ (Below.refl w.heap.size w)
 have H : (cambistref01_Sum.l0 k l0 ([] : List Int) ([] : List Int) 0) = some (r1, r2) := h
 clear h
 have H' := a_ H
 clear H
 go_enter Tryz.func55, Tryz.ntmps55
 go_wp2
 go_loopg [4, 5, 6] k (fun kq v4 v5 v6 w' => ∃ (x4_1 : List Int) (x5_1 : List Int) (x6_1 : Int), v6 = .int .i64 x6_1 ∧ Aside0 (cambistref01_Sum.l0 kq l0 x4_1 x5_1 x6_1 = some (r1, r2)) ∧ Aside0 (kq ≤ k) ∧ Aside0 (Kd.Q (Kd.int .i64) 2 w' w.heap.size (fun k_ => some k_ ≠ (v5 : Value).ownBlock) v4 x4_1) ∧ Aside0 (Kd.Q (Kd.int .i64) 2 w' w.heap.size (fun k_ => some k_ ≠ (v4 : Value).ownBlock) v5 x5_1) ∧ Aside0 (Below w.heap.size w w'))
 case atStart => exact ⟨(([] : List Int)), (([] : List Int)), (0), z80_, H', ⟨Nat.le_refl _⟩, ⟨Kd.Q_of_R z30_⟩, ⟨Kd.Q_of_R z30_⟩, ⟨z45_⟩⟩
 case round =>
  clear H'
  obtain ⟨x4_1, x5_1, x6_1, rfl, HA, HK1, HO_4, HO_5, HB⟩ := hrel
  cases gk with
  | zero => exact absurd HA.out (by simp [cambistref01_Sum.l0])
  | succ k1 =>
   have H := HA.out
   clear HA
   simp only [cambistref01_Sum.l0] at H
   by_cases c2 : x6_1 < (l0.length : Int)
   ·rw [if_pos c2] at H
    have c2b0 : decide (x6_1 < (l0.length : Int)) = true := decide_eq_true c2
    clear c2
    by_cases c3 : 0 ≤ x6_1
    ·rw [if_pos c3] at H
     have c3b0 : decide (0 ≤ x6_1) = true := decide_eq_true c3
     clear c3
     by_cases c4 : (rd l0 x6_1) ≥ 0
     ·rw [if_pos c4] at H
      have c4b0 : decide (0 ≤ (rd l0 x6_1)) = true := decide_eq_true c4
      clear c4
      by_cases c5 : x4_1.length < 17592186044416
      ·rw [if_pos c5] at H
       have LMc5 := a_ c5
       clear c5
       obtain ⟨y160, hy160⟩ : ∃ y_ : List Int, y_ = (x4_1 ++ [rd l0 x6_1]) := ⟨_, rfl⟩
       replace H : (cambistref01_Sum.l0 k1 l0 y160 x5_1 (wrap64 (x6_1 + 1))) = some (r1, r2) := by first | (rw [hy160]; with_reducible exact H) | (have H2_ := (Option.bind_some _ _).symm.trans H; rw [hy160]; with_reducible exact H2_) | (have H2_ := (Option.bind_some _ _).symm.trans H; with_reducible exact H2_) | with_reducible exact H | (rw [hy160]; exact H) | exact H
       have Ny160 := a_ hy160
       clear hy160
       have H' := a_ H
       clear H
       have p158 : 0 ≤ (x6_1 : Int) := of_decide_eq_true z79_
       have q158 : x6_1 < (l0.length : Int) := of_decide_eq_true z79_
       obtain ⟨ad158, e158, hx158_0⟩ := Kd.at_int HR0.out x6_1 p158 q158
       cases e158
       replace hx158_0 := (HB.out.cell (World.block_lt_of_cell? w _ hx158_0)).trans hx158_0
       replace p158 := eq_true p158
       replace q158 := eq_true q158
       have p159 : 0 ≤ (x6_1 : Int) := of_decide_eq_true z79_
       have q159 : x6_1 < (l0.length : Int) := of_decide_eq_true z79_
       obtain ⟨ad159, e159, hx159_0⟩ := Kd.at_int HR0.out x6_1 p159 q159
       obtain rfl : ad158 = ad159 := (by injection e159)
       replace hx159_0 := (HB.out.cell (World.block_lt_of_cell? w _ hx159_0)).trans hx159_0
       replace p159 := eq_true p159
       replace q159 := eq_true q159
       go_wp2_with (first | ((with_reducible refine gate_builtin (b := .append) (xs := #[.tmp 23, .tmp 28]) rfl ?_); (try (refine gate_guard (by rfl) ?_; dsimp only)); at_builtin; refine Kd.Q_append (Kd.int .i64) (w0 := w) w.heap.size rfl (.tmp 23) (.tmp 28) 83 2 (.int .i64 0) 8 rfl Tryz.underlying83 info2 rfl (by decide) (by omega) u4 x4_1 (rd l0 x6_1) [.int .i64 (rd l0 x6_1)] (fun k_ => some k_ ≠ (u5 : Value).ownBlock) (fun _ => False) rfl rfl ?aP (fun _ hk => hk.elim) ?aF ?aO ?aB ?aS ?aL ?_; (case aP => exact rfl); (case aB => exact z45_); (case aF => exact (fun k_ hk => Kd.fresh' (Kd.Q_lt z54_) k_ hk)); (case aO => exact z55_); (case aS => exact (below_size z45_)); (case aL => have := LMc5.out; omega); intro v161 w6 ho hb hg hat; rw [← Ny160.out] at ho; have n0_ := a_ (Kd.Q_after (ok := (fun _ => True)) (by (with_reducible repeat (first | apply Kd.Q_alloc | apply Kd.Q_drewN | apply Kd.Q_drew)); exact Kd.Q_mono HO_5.out (fun _ hk => ⟨trivial, hk⟩)) hg hat); have n1_ := a_ (hb); have n2_ := a_ (ho); clear HO_5; clear HB; clear HO_4; have HO_5 := n0_; have HB := n1_; have HO162 := n2_; clear n0_ n1_ n2_; clear ho hb hg hat))
       go_roundg k1
       case measure => have := HK1.out; omega
       case rel => exact ⟨(y160), (x5_1), (wrap64 (x6_1 + 1)), z80_, H', ⟨z84_⟩, ⟨by (with_reducible repeat (first | apply Kd.Q_alloc | apply Kd.Q_drewN | apply Kd.Q_drew)); exact HO162.out⟩, ⟨by (with_reducible repeat (first | apply Kd.Q_alloc | apply Kd.Q_drewN | apply Kd.Q_drew)); exact Kd.Q_mono HO_5.out (fun _ hk => hk.2)⟩, ⟨z45_⟩⟩
      ·rw [if_neg c5] at H
       exact absurd H (by simp)
     ·rw [if_neg c4] at H
      have c4b0 : decide (0 ≤ (rd l0 x6_1)) = false := decide_eq_false c4
      clear c4
      by_cases c7 : x5_1.length < 17592186044416
      ·rw [if_pos c7] at H
       have LMc7 := a_ c7
       clear c7
       obtain ⟨y164, hy164⟩ : ∃ y_ : List Int, y_ = (x5_1 ++ [rd l0 x6_1]) := ⟨_, rfl⟩
       replace H : (cambistref01_Sum.l0 k1 l0 x4_1 y164 (wrap64 (x6_1 + 1))) = some (r1, r2) := by first | (rw [hy164]; with_reducible exact H) | (have H2_ := (Option.bind_some _ _).symm.trans H; rw [hy164]; with_reducible exact H2_) | (have H2_ := (Option.bind_some _ _).symm.trans H; with_reducible exact H2_) | with_reducible exact H | (rw [hy164]; exact H) | exact H
       have Ny164 := a_ hy164
       clear hy164
       have H' := a_ H
       clear H
       have p158 : 0 ≤ (x6_1 : Int) := of_decide_eq_true z79_
       have q158 : x6_1 < (l0.length : Int) := of_decide_eq_true z79_
       obtain ⟨ad158, e158, hx158_0⟩ := Kd.at_int HR0.out x6_1 p158 q158
       cases e158
       replace hx158_0 := (HB.out.cell (World.block_lt_of_cell? w _ hx158_0)).trans hx158_0
       replace p158 := eq_true p158
       replace q158 := eq_true q158
       have p163 : 0 ≤ (x6_1 : Int) := of_decide_eq_true z79_
       have q163 : x6_1 < (l0.length : Int) := of_decide_eq_true z79_
       obtain ⟨ad163, e163, hx163_0⟩ := Kd.at_int HR0.out x6_1 p163 q163
       obtain rfl : ad158 = ad163 := (by injection e163)
       replace hx163_0 := (HB.out.cell (World.block_lt_of_cell? w _ hx163_0)).trans hx163_0
       replace p163 := eq_true p163
       replace q163 := eq_true q163
       go_wp2_with (first | ((with_reducible refine gate_builtin (b := .append) (xs := #[.tmp 30, .tmp 35]) rfl ?_); (try (refine gate_guard (by rfl) ?_; dsimp only)); at_builtin; refine Kd.Q_append (Kd.int .i64) (w0 := w) w.heap.size rfl (.tmp 30) (.tmp 35) 83 2 (.int .i64 0) 8 rfl Tryz.underlying83 info2 rfl (by decide) (by omega) u5 x5_1 (rd l0 x6_1) [.int .i64 (rd l0 x6_1)] (fun k_ => some k_ ≠ (u4 : Value).ownBlock) (fun _ => False) rfl rfl ?aP (fun _ hk => hk.elim) ?aF ?aO ?aB ?aS ?aL ?_; (case aP => exact rfl); (case aB => exact z45_); (case aF => exact (fun k_ hk => Kd.fresh' (Kd.Q_lt z55_) k_ hk)); (case aO => exact z54_); (case aS => exact (below_size z45_)); (case aL => have := LMc7.out; omega); intro v165 w8 ho hb hg hat; rw [← Ny164.out] at ho; have n0_ := a_ (Kd.Q_after (ok := (fun _ => True)) (by (with_reducible repeat (first | apply Kd.Q_alloc | apply Kd.Q_drewN | apply Kd.Q_drew)); exact Kd.Q_mono HO_4.out (fun _ hk => ⟨trivial, hk⟩)) hg hat); have n1_ := a_ (hb); have n2_ := a_ (ho); clear HO_4; clear HB; clear HO_5; have HO_4 := n0_; have HB := n1_; have HO166 := n2_; clear n0_ n1_ n2_; clear ho hb hg hat))
       go_roundg k1
       case measure => have := HK1.out; omega
       case rel => exact ⟨(x4_1), (y164), (wrap64 (x6_1 + 1)), z80_, H', ⟨z84_⟩, ⟨by (with_reducible repeat (first | apply Kd.Q_alloc | apply Kd.Q_drewN | apply Kd.Q_drew)); exact Kd.Q_mono HO_4.out (fun _ hk => hk.2)⟩, ⟨by (with_reducible repeat (first | apply Kd.Q_alloc | apply Kd.Q_drewN | apply Kd.Q_drew)); exact HO166.out⟩, ⟨z45_⟩⟩
      ·rw [if_neg c7] at H
       exact absurd H (by simp)
    ·rw [if_neg c3] at H
     exact absurd H (by simp)
   ·rw [if_neg c2] at H
    have c2b0 : decide (x6_1 < (l0.length : Int)) = false := decide_eq_false c2
    clear c2
    have H' := a_ H
    clear H
    go_wp2
    go_loopg [4, 5, 7] k1 (fun kq v4 v5 v7 w' => ∃ (x4_2 : List Int) (x5_2 : List Int) (x7_2 : Int), v7 = .int .i64 x7_2 ∧ Aside0 (cambistref01_Sum.l1 kq x4_2 x5_2 x7_2 = some (r1, r2)) ∧ Aside0 (kq ≤ k1) ∧ Aside0 (Kd.Q (Kd.int .i64) 2 w' w.heap.size (fun k_ => some k_ ≠ (v5 : Value).ownBlock) v4 x4_2) ∧ Aside0 (Kd.Q (Kd.int .i64) 2 w' w.heap.size (fun k_ => some k_ ≠ (v4 : Value).ownBlock) v5 x5_2) ∧ Aside0 (Below w.heap.size w w'))
    case atStart => exact ⟨(x4_1), (x5_1), (0), z80_, H', ⟨Nat.le_refl _⟩, ⟨z55_⟩, ⟨z54_⟩, ⟨z45_⟩⟩
    case round =>
     clear H'
     try clear p1
     try clear q1
     try clear hx1
     try clear c2
     try clear c2b0
     try clear p2
     try clear c3
     try clear c3b0
     try clear c4
     try clear c4b0
     try clear c5
     try clear p6
     try clear c7
     try clear hx158_0
     try clear hx159_0
     try clear hx163_0
     try clear p158
     try clear p159
     try clear p163
     try clear q158
     try clear q159
     try clear q163
     obtain ⟨x4_2, x5_2, x7_2, rfl, HA, HK2, HO_4, HO_5, HB⟩ := hrel
     cases gk with
     | zero => exact absurd HA.out (by simp [cambistref01_Sum.l1])
     | succ k2 =>
      have H := HA.out
      clear HA
      simp only [cambistref01_Sum.l1] at H
      have HC9 := a_ H
      clear H
      go_upto_region 10 with (fail)
      go_cut [44] (fun v44 wc => ∃ (kq : Nat) (x44_8 : Bool), v44 = .bool x44_8 ∧ Aside0 (cambistref01_Sum.j2 kq x4_2 x5_2 x7_2 x44_8 = some (r1, r2)) ∧ Aside0 (kq ≤ k2) ∧ Aside0 (Kd.Q (Kd.int .i64) 2 wc w.heap.size (fun k_ => some k_ ≠ (u5 : Value).ownBlock) u4 x4_2) ∧ Aside0 (Kd.Q (Kd.int .i64) 2 wc w.heap.size (fun k_ => some k_ ≠ (u4 : Value).ownBlock) u5 x5_2) ∧ Aside0 (Below w.heap.size w wc))
      case first =>
       have H := HC9.out
       clear HC9
       by_cases c10 : (x4_2.length : Int) > 0
       ·rw [if_pos c10] at H
        have c10b0 : decide (0 < (x4_2.length : Int)) = true := decide_eq_true c10
        have c10b1 : decide (0 < x4_2.length) = true := decide_eq_true (by omega)
        clear c10
        (first | rw [c10b0] | (simp only [i64_w, i32_w]; rw [c10b0]) | skip)
        have H' := a_ H
        clear H
        obtain ⟨Ao11, co11, eo11, _⟩ := Kd.Q_slice HO_4.out
        subst eo11
        go_wp2
        go_meet
        case rel => exact ⟨_, (true), z80_, H', ⟨by have := HK1.out; have := HK2.out; first | omega | exact Nat.le_refl _⟩, ⟨z55_⟩, ⟨z54_⟩, ⟨z45_⟩⟩
       ·rw [if_neg c10] at H
        have c10b0 : decide (0 < (x4_2.length : Int)) = false := decide_eq_false c10
        have c10b1 : decide (0 < x4_2.length) = false := decide_eq_false (by omega)
        clear c10
        (first | rw [c10b0] | (simp only [i64_w, i32_w]; rw [c10b0]) | skip)
        have H' := a_ H
        clear H
        obtain ⟨Ao12, co12, eo12, _⟩ := Kd.Q_slice HO_4.out
        subst eo12
        obtain ⟨Ao13, co13, eo13, _⟩ := Kd.Q_slice HO_5.out
        subst eo13
        go_wp2
        go_meet
        case rel => exact ⟨_, (decide ((x5_2.length : Int) > 0)), z80_, H', ⟨by have := HK1.out; have := HK2.out; first | omega | exact Nat.le_refl _⟩, ⟨z55_⟩, ⟨z54_⟩, ⟨z45_⟩⟩
      case rest =>
       clear HC9
       try clear c1
       try clear p1
       try clear q1
       try clear hx1
       try clear c2
       try clear c2b0
       try clear p2
       try clear c3
       try clear c3b0
       try clear c4
       try clear c4b0
       try clear c5
       try clear p6
       try clear c7
       try clear c10
       try clear c10b0
       try clear c10b1
       try clear hx158_0
       try clear hx159_0
       try clear hx163_0
       try clear p1
       try clear p158
       try clear p159
       try clear p163
       try clear p2
       try clear p6
       try clear q1
       try clear q158
       try clear q159
       try clear q163
       obtain ⟨kq, x44_8, rfl, HA, HJ8, HO_4, HO_5, HB⟩ := hcut
       cases kq with
       | zero => exact absurd HA.out (by simp [cambistref01_Sum.j2])
       | succ kj8 =>
        have H := HA.out
        clear HA
        simp only [cambistref01_Sum.j2] at H
        by_cases c14 : x44_8 = true
        ·subst c14
         have H1 : (if (x4_2.length : Int) > 0 then (if x7_2 < 0 then (cambistref01_Sum.j3 kj8 x4_2 x5_2 x7_2 true) else (if (x5_2.length : Int) = 0 then (cambistref01_Sum.j3 kj8 x4_2 x5_2 x7_2 true) else (cambistref01_Sum.j3 kj8 x4_2 x5_2 x7_2 ((x5_2.length : Int) == 0)))) else (cambistref01_Sum.j3 kj8 x4_2 x5_2 x7_2 ((x5_2.length : Int) == 0))) = some (r1, r2) := by rw [if_pos rfl] at H; exact H
         clear H
         have H := H1
         clear H1
         have HC15 := a_ H
         clear H
         go_upto_region 11 with (fail)
         go_cut [61] (fun v61 wc => ∃ (kq : Nat) (x61_14 : Bool), v61 = .bool x61_14 ∧ Aside0 (cambistref01_Sum.j3 kq x4_2 x5_2 x7_2 x61_14 = some (r1, r2)) ∧ Aside0 (kq ≤ kj8) ∧ Aside0 (Kd.Q (Kd.int .i64) 2 wc w.heap.size (fun k_ => some k_ ≠ (u5 : Value).ownBlock) u4 x4_2) ∧ Aside0 (Kd.Q (Kd.int .i64) 2 wc w.heap.size (fun k_ => some k_ ≠ (u4 : Value).ownBlock) u5 x5_2) ∧ Aside0 (Below w.heap.size w wc))
         case first =>
          have H := HC15.out
          clear HC15
          by_cases c16 : (x4_2.length : Int) > 0
          ·rw [if_pos c16] at H
           have c16b0 : decide (0 < (x4_2.length : Int)) = true := decide_eq_true c16
           have c16b1 : decide (0 < x4_2.length) = true := decide_eq_true (by omega)
           clear c16
           (first | rw [c16b0] | (simp only [i64_w, i32_w]; rw [c16b0]) | skip)
           by_cases c17 : x7_2 < 0
           ·rw [if_pos c17] at H
            have c17b0 : decide (x7_2 < 0) = true := decide_eq_true c17
            clear c17
            have H' := a_ H
            clear H
            obtain ⟨Ao18, co18, eo18, _⟩ := Kd.Q_slice HO_4.out
            subst eo18
            go_wp2
            go_meet
            case rel => exact ⟨_, (true), z80_, H', ⟨z77_⟩, ⟨z55_⟩, ⟨z54_⟩, ⟨z45_⟩⟩
           ·rw [if_neg c17] at H
            have c17b0 : decide (x7_2 < 0) = false := decide_eq_false c17
            clear c17
            by_cases c19 : (x5_2.length : Int) = 0
            ·rw [if_pos c19] at H
             have c19b0 : ((x5_2.length : Int) == 0) = true := beq_iff_eq.mpr c19
             have c19b1 : ((x5_2.length : Int) != 0) = false := bne_eq_false_iff_eq.mpr c19
             clear c19
             have H' := a_ H
             clear H
             obtain ⟨Ao20, co20, eo20, _⟩ := Kd.Q_slice HO_4.out
             subst eo20
             obtain ⟨Ao21, co21, eo21, _⟩ := Kd.Q_slice HO_5.out
             subst eo21
             go_wp2
             go_meet
             case rel => exact ⟨_, (true), z80_, H', ⟨z77_⟩, ⟨z55_⟩, ⟨z54_⟩, ⟨z45_⟩⟩
            ·rw [if_neg c19] at H
             have c19b0 : ((x5_2.length : Int) == 0) = false := beq_eq_false_iff_ne.mpr c19
             have c19b1 : ((x5_2.length : Int) != 0) = true := bne_iff_ne.mpr c19
             have c19b2 : ¬ (x5_2 = []) := fun h_ => c19 (by rw [h_]; rfl)
             have H' := a_ H
             clear H
             obtain ⟨Ao22, co22, eo22, _⟩ := Kd.Q_slice HO_4.out
             subst eo22
             obtain ⟨Ao23, co23, eo23, _⟩ := Kd.Q_slice HO_5.out
             subst eo23
             go_wp2
             go_meet
             case rel => exact ⟨_, (((x5_2.length : Int) == 0)), z80_, H', ⟨z77_⟩, ⟨z55_⟩, ⟨z54_⟩, ⟨z45_⟩⟩
          ·rw [if_neg c16] at H
           have c16b0 : decide (0 < (x4_2.length : Int)) = false := decide_eq_false c16
           have c16b1 : decide (0 < x4_2.length) = false := decide_eq_false (by omega)
           clear c16
           (first | rw [c16b0] | (simp only [i64_w, i32_w]; rw [c16b0]) | skip)
           have H' := a_ H
           clear H
           obtain ⟨Ao24, co24, eo24, _⟩ := Kd.Q_slice HO_4.out
           subst eo24
           obtain ⟨Ao25, co25, eo25, _⟩ := Kd.Q_slice HO_5.out
           subst eo25
           go_wp2
           go_meet
           case rel => exact ⟨_, (((x5_2.length : Int) == 0)), z80_, H', ⟨z77_⟩, ⟨z55_⟩, ⟨z54_⟩, ⟨z45_⟩⟩
         case rest =>
          clear HC15
          try clear c1
          try clear p1
          try clear q1
          try clear hx1
          try clear c2
          try clear c2b0
          try clear p2
          try clear c3
          try clear c3b0
          try clear c4
          try clear c4b0
          try clear c5
          try clear p6
          try clear c7
          try clear c10
          try clear c10b0
          try clear c10b1
          try clear c14
          try clear p15
          try clear q15
          try clear hx15
          try clear c16
          try clear c16b0
          try clear c16b1
          try clear p16
          try clear q16
          try clear hx16
          try clear c17
          try clear c17b0
          try clear c19
          try clear c19b0
          try clear c19b1
          try clear c19b2
          try clear hx158_0
          try clear hx159_0
          try clear hx163_0
          try clear p1
          try clear p158
          try clear p159
          try clear p163
          try clear p2
          try clear p6
          try clear q1
          try clear q158
          try clear q159
          try clear q163
          obtain ⟨kq, x61_14, rfl, HA, HJ14, HO_4, HO_5, HB⟩ := hcut
          cases kq with
          | zero => exact absurd HA.out (by simp [cambistref01_Sum.j3])
          | succ kj14 =>
           have H := HA.out
           clear HA
           simp only [cambistref01_Sum.j3] at H
           by_cases c26 : x61_14 = true
           ·subst c26
            have H1 : (if 0 < (x4_2.length : Int) then ((cambistref01_Add.f x7_2 (rd x4_2 0)).bind fun bt168 => (if bt168.2 = 0 then (if 1 ≤ (x4_2.length : Int) then (cambistref01_Sum.l1 kj14 (x4_2.drop (1 : Int).toNat) x5_2 bt168.1) else (none)) else (some (0, bt168.2)))) else (none)) = some (r1, r2) := by rw [if_pos rfl] at H; exact H
            clear H
            have H := H1
            clear H1
            by_cases c27 : 0 < (x4_2.length : Int)
            ·rw [if_pos c27] at H
             have c27b0 : decide (0 < (x4_2.length : Int)) = true := decide_eq_true c27
             have c27b1 : decide (0 < x4_2.length) = true := decide_eq_true (by omega)
             clear c27
             replace H := Option.bind_eq_some_iff.mp H
             obtain ⟨⟨t168, t169⟩, A280, H⟩ := H
             replace H : (if t169 = 0 then (if 1 ≤ (x4_2.length : Int) then (cambistref01_Sum.l1 kj14 (x4_2.drop (1 : Int).toNat) x5_2 t168) else (none)) else (some (0, t169))) = some (r1, r2) := H
             have A28 := a_ A280
             clear A280
             by_cases c29 : t169 = 0
             ·rw [if_pos c29] at H
              have c29b0 : (t169 == 0) = true := beq_iff_eq.mpr c29
              have c29b1 : (t169 != 0) = false := bne_eq_false_iff_eq.mpr c29
              clear c29
              by_cases c30 : 1 ≤ (x4_2.length : Int)
              ·rw [if_pos c30] at H
               have c30b0 := eq_true c30
               have c30b1 : decide (1 ≤ (x4_2.length : Int)) = true := decide_eq_true c30
               clear c30
               obtain ⟨y170, hy170⟩ : ∃ y_ : List Int, y_ = (x4_2.drop (1 : Int).toNat) := ⟨_, rfl⟩
               replace H : (cambistref01_Sum.l1 kj14 y170 x5_2 t168) = some (r1, r2) := by first | (rw [hy170]; with_reducible exact H) | (have H2_ := (Option.bind_some _ _).symm.trans H; rw [hy170]; with_reducible exact H2_) | (have H2_ := (Option.bind_some _ _).symm.trans H; with_reducible exact H2_) | with_reducible exact H | (rw [hy170]; exact H) | exact H
               have Ny170 := a_ hy170
               clear hy170
               have H' := a_ H
               clear H
               obtain ⟨Ao31, co31, eo31, _⟩ := Kd.Q_slice HO_4.out
               subst eo31
               have p167 : 0 ≤ (0 : Int) := (by omega)
               have q167 : 0 < (x4_2.length : Int) := of_decide_eq_true z79_
               obtain ⟨ad167, e167, hx167_0⟩ := Kd.at_int (Kd.Q_reads' HO_4.out).2.2 0 p167 q167
               cases e167
               have qi167 : (0 < x4_2.length) = True := eq_true (by omega)
               (try rw [show ((0 : Int)).toNat = 0 from rfl] at hx167_0)
               (try rw [Addr.add_zero'] at hx167_0)
               replace p167 := eq_true p167
               replace q167 := eq_true q167
               go_wp2_with (first | ((with_reducible refine gate_callee (f := 73) rfl ?_); refine goesL_ (some 67) rfl rfl Tryz.func73 z85_ rfl #[.int .i64 x7_2, .int .i64 (rd x4_2 0)] rfl z31_ ?_; (with_reducible refine (cambistref01_Add.calls x7_2 (rd x4_2 0) t168 t169 _ ?side1 A28.out).mono ?_); (case side1 => exact Glob.below HG.out z45_); rintro e w' ⟨rfl, ⟨nd, rfl⟩⟩; refine ⟨_, rfl, ?_⟩; (try clear hcut18); (try clear hcut19); (try clear hcut20); (try clear hcut21); (try clear hcut22); (try clear hcut23); (try clear hcut24); (try clear hcut25); (try clear hcut26); (try clear hcut27); (try clear hcut28); (try clear hcut29); (try clear hcut30); (try clear hcut31); have q32 : (1 : Int) ≤ ((x4_2.length : Int) : Int) := of_decide_eq_true z79_; obtain ⟨i032, hi032, _, hsz32, _⟩ := info_parts info2; have hcut32 := cut_from (P := Tryz.prog) 83 2 .i64 Tryz.underlying83 hi032 1 hsz32 (some ad167) x4_2.length co31 1 (by omega) q32; have hr32 := Kd.Q_drop (k := (1 : Int).toNat) HO_4.out (by omega); obtain ⟨A32, hA32⟩ : ∃ A1, A1 = (if co31 = (1 : Int).toNat then (some ad167) else ((some ad167) : Option Addr).map (·.add ((1 : Int).toNat * 1))) := ⟨_, rfl⟩; obtain ⟨c32, hc32⟩ : ∃ c1, c1 = co31 - (1 : Int).toNat := ⟨_, rfl⟩; have hy32 : y170.length = x4_2.length - (1 : Int).toNat := (by rw [Ny170.out, List.length_drop]); rw [← Ny170.out] at hr32; rw [← hy32, ← hA32, ← hc32] at hcut32; replace hr32 : Kd.Q (Kd.int .i64) 2 _ w.heap.size (fun k_ => some k_ ≠ (u5 : Value).ownBlock) (.slice A32 y170.length c32) y170 := (by rw [hA32, hc32, hy32]; exact hr32); have HE32 : Aside0 ((Value.slice A32 y170.length c32).ownBlock = (.slice (some ad167) x4_2.length co31 : Value).ownBlock) := ⟨by rw [hA32]; split <;> (cases ((some ad167) : Option Addr) <;> rfl)⟩; clear hy32 hi032 hsz32 hA32 hc32; have HO172 := a_ hr32; clear hr32; replace q32 := eq_true q32; have n_ := a_ (Kd.Q_mono (ok' := fun k_ => some k_ ≠ (.slice A32 y170.length c32 : Value).ownBlock) HO_5.out (fun k_ hk => (by rw [HE32.out]; exact hk))); clear HO_5; have HO_5 := n_; clear n_))
               go_roundg kj14
               case measure => have := HK1.out; have := HK2.out; have := HJ8.out; have := HJ14.out; omega
               case rel => exact ⟨(y170), (x5_2), (t168), z80_, H', ⟨by have := HK1.out; have := HK2.out; have := HJ8.out; have := HJ14.out; omega⟩, ⟨by (with_reducible repeat (first | apply Kd.Q_alloc | apply Kd.Q_drewN | apply Kd.Q_drew)); exact HO172.out⟩, ⟨z54_⟩, ⟨z45_⟩⟩
              ·rw [if_neg c30] at H
               exact absurd H (by simp)
             ·rw [if_neg c29] at H
              have c29b0 : (t169 == 0) = false := beq_eq_false_iff_ne.mpr c29
              have c29b1 : (t169 != 0) = true := bne_iff_ne.mpr c29
              simp only [Option.some.injEq, Prod.mk.injEq] at H
              obtain ⟨rfl, rfl⟩ := H
              obtain ⟨Ao33, co33, eo33, _⟩ := Kd.Q_slice HO_4.out
              subst eo33
              have p167 : 0 ≤ (0 : Int) := (by omega)
              have q167 : 0 < (x4_2.length : Int) := of_decide_eq_true z79_
              obtain ⟨ad167, e167, hx167_0⟩ := Kd.at_int (Kd.Q_reads' HO_4.out).2.2 0 p167 q167
              cases e167
              have qi167 : (0 < x4_2.length) = True := eq_true (by omega)
              (try rw [show ((0 : Int)).toNat = 0 from rfl] at hx167_0)
              (try rw [Addr.add_zero'] at hx167_0)
              replace p167 := eq_true p167
              replace q167 := eq_true q167
              go_wp2_with (first | ((with_reducible refine gate_callee (f := 73) rfl ?_); refine goesL_ (some 67) rfl rfl Tryz.func73 z85_ rfl #[.int .i64 x7_2, .int .i64 (rd x4_2 0)] rfl z31_ ?_; (with_reducible refine (cambistref01_Add.calls x7_2 (rd x4_2 0) t168 t169 _ ?side1 A28.out).mono ?_); (case side1 => exact Glob.below HG.out z45_); rintro e w' ⟨rfl, ⟨nd, rfl⟩⟩; refine ⟨_, rfl, ?_⟩))
              go_ret2
              exact ⟨z76_, z45_⟩
            ·rw [if_neg c27] at H
             exact absurd H (by simp)
           ·replace c26 := Bool.eq_false_iff.mpr c26
            subst c26
            have H1 : (if (x4_2.length : Int) > 0 then (if x7_2 ≥ 0 then (cambistref01_Sum.j4 kj14 x4_2 x5_2 x7_2 true) else (cambistref01_Sum.j4 kj14 x4_2 x5_2 x7_2 ((x4_2.length : Int) == 0))) else (cambistref01_Sum.j4 kj14 x4_2 x5_2 x7_2 ((x4_2.length : Int) == 0))) = some (r1, r2) := by rw [if_neg (show ¬ (false = true) by decide)] at H; exact H
            clear H
            have H := H1
            clear H1
            have HC34 := a_ H
            clear H
            go_upto_region 17 with (fail)
            go_cut [87] (fun v87 wc => ∃ (kq : Nat) (x87_33 : Bool), v87 = .bool x87_33 ∧ Aside0 (cambistref01_Sum.j4 kq x4_2 x5_2 x7_2 x87_33 = some (r1, r2)) ∧ Aside0 (kq ≤ kj14) ∧ Aside0 (Kd.Q (Kd.int .i64) 2 wc w.heap.size (fun k_ => some k_ ≠ (u5 : Value).ownBlock) u4 x4_2) ∧ Aside0 (Kd.Q (Kd.int .i64) 2 wc w.heap.size (fun k_ => some k_ ≠ (u4 : Value).ownBlock) u5 x5_2) ∧ Aside0 (Below w.heap.size w wc))
            case first =>
             have H := HC34.out
             clear HC34
             by_cases c35 : (x4_2.length : Int) > 0
             ·rw [if_pos c35] at H
              have c35b0 : decide (0 < (x4_2.length : Int)) = true := decide_eq_true c35
              have c35b1 : decide (0 < x4_2.length) = true := decide_eq_true (by omega)
              clear c35
              (first | rw [c35b0] | (simp only [i64_w, i32_w]; rw [c35b0]) | skip)
              by_cases c36 : x7_2 ≥ 0
              ·rw [if_pos c36] at H
               have c36b0 : decide (0 ≤ x7_2) = true := decide_eq_true c36
               clear c36
               have H' := a_ H
               clear H
               obtain ⟨Ao37, co37, eo37, _⟩ := Kd.Q_slice HO_4.out
               subst eo37
               go_wp2
               go_meet
               case rel => exact ⟨_, (true), z80_, H', ⟨z47_⟩, ⟨z55_⟩, ⟨z54_⟩, ⟨z45_⟩⟩
              ·rw [if_neg c36] at H
               have c36b0 : decide (0 ≤ x7_2) = false := decide_eq_false c36
               clear c36
               have H' := a_ H
               clear H
               obtain ⟨Ao38, co38, eo38, _⟩ := Kd.Q_slice HO_4.out
               subst eo38
               go_wp2
               go_meet
               case rel => exact ⟨_, (((x4_2.length : Int) == 0)), z80_, H', ⟨z47_⟩, ⟨z55_⟩, ⟨z54_⟩, ⟨z45_⟩⟩
             ·rw [if_neg c35] at H
              have c35b0 : decide (0 < (x4_2.length : Int)) = false := decide_eq_false c35
              have c35b1 : decide (0 < x4_2.length) = false := decide_eq_false (by omega)
              clear c35
              (first | rw [c35b0] | (simp only [i64_w, i32_w]; rw [c35b0]) | skip)
              have H' := a_ H
              clear H
              obtain ⟨Ao39, co39, eo39, _⟩ := Kd.Q_slice HO_4.out
              subst eo39
              go_wp2
              go_meet
              case rel => exact ⟨_, (((x4_2.length : Int) == 0)), z80_, H', ⟨z47_⟩, ⟨z55_⟩, ⟨z54_⟩, ⟨z45_⟩⟩
            case rest =>
             clear HC34
             try clear c1
             try clear p1
             try clear q1
             try clear hx1
             try clear qi1
             try clear c2
             try clear c2b0
             try clear p2
             try clear c3
             try clear c3b0
             try clear q3
             try clear c4
             try clear c4b0
             try clear c5
             try clear p6
             try clear c7
             try clear c10
             try clear c10b0
             try clear c10b1
             try clear c14
             try clear p15
             try clear q15
             try clear hx15
             try clear c16
             try clear c16b0
             try clear c16b1
             try clear p16
             try clear q16
             try clear hx16
             try clear qi16
             try clear c17
             try clear c17b0
             try clear c19
             try clear c19b0
             try clear c19b1
             try clear c19b2
             try clear c26
             try clear c27
             try clear c27b0
             try clear c27b1
             try clear c29
             try clear c29b0
             try clear c29b1
             try clear c30
             try clear c30b0
             try clear c30b1
             try clear c32
             try clear q32
             try clear c35
             try clear c35b0
             try clear c35b1
             try clear c36
             try clear c36b0
             try clear hx158_0
             try clear hx159_0
             try clear hx163_0
             try clear hx167_0
             try clear p1
             try clear p15
             try clear p158
             try clear p159
             try clear p16
             try clear p163
             try clear p167
             try clear p2
             try clear p6
             try clear q1
             try clear q15
             try clear q158
             try clear q159
             try clear q16
             try clear q163
             try clear q167
             try clear q32
             obtain ⟨kq, x87_33, rfl, HA, HJ33, HO_4, HO_5, HB⟩ := hcut
             cases kq with
             | zero => exact absurd HA.out (by simp [cambistref01_Sum.j4])
             | succ kj33 =>
              have H := HA.out
              clear HA
              simp only [cambistref01_Sum.j4] at H
              by_cases c40 : x87_33 = true
              ·subst c40
               have H1 : (if 0 < (x5_2.length : Int) then ((cambistref01_Add.f x7_2 (rd x5_2 0)).bind fun bt174 => (if bt174.2 = 0 then (if 1 ≤ (x5_2.length : Int) then (cambistref01_Sum.l1 kj33 x4_2 (x5_2.drop (1 : Int).toNat) bt174.1) else (none)) else (some (0, bt174.2)))) else (none)) = some (r1, r2) := by rw [if_pos rfl] at H; exact H
               clear H
               have H := H1
               clear H1
               by_cases c41 : 0 < (x5_2.length : Int)
               ·rw [if_pos c41] at H
                have c41b0 : decide (0 < (x5_2.length : Int)) = true := decide_eq_true c41
                have c41b1 : decide (0 < x5_2.length) = true := decide_eq_true (by omega)
                clear c41
                replace H := Option.bind_eq_some_iff.mp H
                obtain ⟨⟨t174, t175⟩, A420, H⟩ := H
                replace H : (if t175 = 0 then (if 1 ≤ (x5_2.length : Int) then (cambistref01_Sum.l1 kj33 x4_2 (x5_2.drop (1 : Int).toNat) t174) else (none)) else (some (0, t175))) = some (r1, r2) := H
                have A42 := a_ A420
                clear A420
                by_cases c43 : t175 = 0
                ·rw [if_pos c43] at H
                 have c43b0 : (t175 == 0) = true := beq_iff_eq.mpr c43
                 have c43b1 : (t175 != 0) = false := bne_eq_false_iff_eq.mpr c43
                 clear c43
                 by_cases c44 : 1 ≤ (x5_2.length : Int)
                 ·rw [if_pos c44] at H
                  have c44b0 := eq_true c44
                  have c44b1 : decide (1 ≤ (x5_2.length : Int)) = true := decide_eq_true c44
                  clear c44
                  obtain ⟨y176, hy176⟩ : ∃ y_ : List Int, y_ = (x5_2.drop (1 : Int).toNat) := ⟨_, rfl⟩
                  replace H : (cambistref01_Sum.l1 kj33 x4_2 y176 t174) = some (r1, r2) := by first | (rw [hy176]; with_reducible exact H) | (have H2_ := (Option.bind_some _ _).symm.trans H; rw [hy176]; with_reducible exact H2_) | (have H2_ := (Option.bind_some _ _).symm.trans H; with_reducible exact H2_) | with_reducible exact H | (rw [hy176]; exact H) | exact H
                  have Ny176 := a_ hy176
                  clear hy176
                  have H' := a_ H
                  clear H
                  obtain ⟨Ao45, co45, eo45, _⟩ := Kd.Q_slice HO_5.out
                  subst eo45
                  have p173 : 0 ≤ (0 : Int) := (by omega)
                  have q173 : 0 < (x5_2.length : Int) := of_decide_eq_true z79_
                  obtain ⟨ad173, e173, hx173_0⟩ := Kd.at_int (Kd.Q_reads' HO_5.out).2.2 0 p173 q173
                  cases e173
                  have qi173 : (0 < x5_2.length) = True := eq_true (by omega)
                  (try rw [show ((0 : Int)).toNat = 0 from rfl] at hx173_0)
                  (try rw [Addr.add_zero'] at hx173_0)
                  replace p173 := eq_true p173
                  replace q173 := eq_true q173
                  go_wp2_with (first | ((with_reducible refine gate_callee (f := 73) rfl ?_); refine goesL_ (some 93) rfl rfl Tryz.func73 z85_ rfl #[.int .i64 x7_2, .int .i64 (rd x5_2 0)] rfl z31_ ?_; (with_reducible refine (cambistref01_Add.calls x7_2 (rd x5_2 0) t174 t175 _ ?side1 A42.out).mono ?_); (case side1 => exact Glob.below HG.out z45_); rintro e w' ⟨rfl, ⟨nd, rfl⟩⟩; refine ⟨_, rfl, ?_⟩; (try clear hcut32); (try clear hcut33); (try clear hcut34); (try clear hcut35); (try clear hcut36); (try clear hcut37); (try clear hcut38); (try clear hcut39); (try clear hcut40); (try clear hcut41); (try clear hcut42); (try clear hcut43); (try clear hcut44); (try clear hcut45); have q46 : (1 : Int) ≤ ((x5_2.length : Int) : Int) := of_decide_eq_true z79_; obtain ⟨i046, hi046, _, hsz46, _⟩ := info_parts info2; have hcut46 := cut_from (P := Tryz.prog) 83 2 .i64 Tryz.underlying83 hi046 1 hsz46 (some ad173) x5_2.length co45 1 (by omega) q46; have hr46 := Kd.Q_drop (k := (1 : Int).toNat) HO_5.out (by omega); obtain ⟨A46, hA46⟩ : ∃ A1, A1 = (if co45 = (1 : Int).toNat then (some ad173) else ((some ad173) : Option Addr).map (·.add ((1 : Int).toNat * 1))) := ⟨_, rfl⟩; obtain ⟨c46, hc46⟩ : ∃ c1, c1 = co45 - (1 : Int).toNat := ⟨_, rfl⟩; have hy46 : y176.length = x5_2.length - (1 : Int).toNat := (by rw [Ny176.out, List.length_drop]); rw [← Ny176.out] at hr46; rw [← hy46, ← hA46, ← hc46] at hcut46; replace hr46 : Kd.Q (Kd.int .i64) 2 _ w.heap.size (fun k_ => some k_ ≠ (u4 : Value).ownBlock) (.slice A46 y176.length c46) y176 := (by rw [hA46, hc46, hy46]; exact hr46); have HE46 : Aside0 ((Value.slice A46 y176.length c46).ownBlock = (.slice (some ad173) x5_2.length co45 : Value).ownBlock) := ⟨by rw [hA46]; split <;> (cases ((some ad173) : Option Addr) <;> rfl)⟩; clear hy46 hi046 hsz46 hA46 hc46; have HO178 := a_ hr46; clear hr46; replace q46 := eq_true q46; have n_ := a_ (Kd.Q_mono (ok' := fun k_ => some k_ ≠ (.slice A46 y176.length c46 : Value).ownBlock) HO_4.out (fun k_ hk => (by rw [HE46.out]; exact hk))); clear HO_4; have HO_4 := n_; clear n_))
                  go_roundg kj33
                  case measure => have := HK1.out; have := HK2.out; have := HJ8.out; have := HJ14.out; have := HJ33.out; omega
                  case rel => exact ⟨(x4_2), (y176), (t174), z80_, H', ⟨by have := HK1.out; have := HK2.out; have := HJ8.out; have := HJ14.out; have := HJ33.out; omega⟩, ⟨z55_⟩, ⟨by (with_reducible repeat (first | apply Kd.Q_alloc | apply Kd.Q_drewN | apply Kd.Q_drew)); exact HO178.out⟩, ⟨z45_⟩⟩
                 ·rw [if_neg c44] at H
                  exact absurd H (by simp)
                ·rw [if_neg c43] at H
                 have c43b0 : (t175 == 0) = false := beq_eq_false_iff_ne.mpr c43
                 have c43b1 : (t175 != 0) = true := bne_iff_ne.mpr c43
                 simp only [Option.some.injEq, Prod.mk.injEq] at H
                 obtain ⟨rfl, rfl⟩ := H
                 obtain ⟨Ao47, co47, eo47, _⟩ := Kd.Q_slice HO_5.out
                 subst eo47
                 have p173 : 0 ≤ (0 : Int) := (by omega)
                 have q173 : 0 < (x5_2.length : Int) := of_decide_eq_true z79_
                 obtain ⟨ad173, e173, hx173_0⟩ := Kd.at_int (Kd.Q_reads' HO_5.out).2.2 0 p173 q173
                 cases e173
                 have qi173 : (0 < x5_2.length) = True := eq_true (by omega)
                 (try rw [show ((0 : Int)).toNat = 0 from rfl] at hx173_0)
                 (try rw [Addr.add_zero'] at hx173_0)
                 replace p173 := eq_true p173
                 replace q173 := eq_true q173
                 go_wp2_with (first | ((with_reducible refine gate_callee (f := 73) rfl ?_); refine goesL_ (some 93) rfl rfl Tryz.func73 z85_ rfl #[.int .i64 x7_2, .int .i64 (rd x5_2 0)] rfl z31_ ?_; (with_reducible refine (cambistref01_Add.calls x7_2 (rd x5_2 0) t174 t175 _ ?side1 A42.out).mono ?_); (case side1 => exact Glob.below HG.out z45_); rintro e w' ⟨rfl, ⟨nd, rfl⟩⟩; refine ⟨_, rfl, ?_⟩))
                 go_ret2
                 exact ⟨z76_, z45_⟩
               ·rw [if_neg c41] at H
                exact absurd H (by simp)
              ·replace c40 := Bool.eq_false_iff.mpr c40
               subst c40
               have H1 : (cambistref01_Sum.l1 kj33 x4_2 x5_2 x7_2) = some (r1, r2) := by rw [if_neg (show ¬ (false = true) by decide)] at H; exact H
               clear H
               have H := H1
               clear H1
               have H' := a_ H
               clear H
               go_wp2
               go_roundg kj33
               case measure => have := HK1.out; have := HK2.out; have := HJ8.out; have := HJ14.out; have := HJ33.out; omega
               case rel => exact ⟨(x4_2), (x5_2), (x7_2), z80_, H', ⟨by have := HK1.out; have := HK2.out; have := HJ8.out; have := HJ14.out; have := HJ33.out; omega⟩, ⟨z55_⟩, ⟨z54_⟩, ⟨z45_⟩⟩
        ·replace c14 := Bool.eq_false_iff.mpr c14
         subst c14
         have H1 : (some (x7_2, 0)) = some (r1, r2) := by rw [if_neg (show ¬ (false = true) by decide)] at H; exact H
         clear H
         have H := H1
         clear H1
         simp only [Option.some.injEq, Prod.mk.injEq] at H
         obtain ⟨rfl, rfl⟩ := H
         go_wp2
         go_ret2
         exact ⟨z76_, z45_⟩

/-! ### cambistref19_whole: function 38 -/
def cambistref19_whole.l0 : Nat → List Int → Int → ByteArray → ByteArray → Int → Int → List (S37) → Int → Option (Int × Int)
 | 0, _, _, _, _, _, _, _, _ => none
 | k + 1, x4, x5, x180000, x180001, x180002, x180003, x180004, x180005 => if x5 < (x180004.length : Int) then (if 0 ≤ x5 then (if x4.length < 17592186044416 then (cambistref19_whole.l0 k (x4 ++ [(rd_T37 x180004 x5).f2]) (wrap64 (x5 + 1)) x180000 x180001 x180002 x180003 x180004 x180005) else (none)) else (none)) else ((cambistref01_Sum.f k x4).bind fun bt187 => (some (bt187.1, bt187.2)))
def cambistref19_whole.f (k : Nat) (a0_0 : ByteArray) (a0_1 : ByteArray) (a0_2 : Int) (a0_3 : Int) (l0_4 : List (S37)) (a0_5 : Int) : Option (Int × Int) := cambistref19_whole.l0 k (([a0_3] : List Int)) 0 a0_0 a0_1 a0_2 a0_3 l0_4 a0_5
theorem cambistref19_whole.mono_l : ∀ k, (∀ y0 y1 y2 y3 y4 y5 y6 y7, LeO (cambistref19_whole.l0 k y0 y1 y2 y3 y4 y5 y6 y7) (cambistref19_whole.l0 (k + 1) y0 y1 y2 y3 y4 y5 y6 y7))
 | 0 => fun _ _ _ _ _ _ _ _ r h => by simp [cambistref19_whole.l0] at h
 | k + 1 => by
  have ih0 := cambistref19_whole.mono_l k
  ·intro y0 y1 y2 y3 y4 y5 y6 y7
   unfold cambistref19_whole.l0
   repeat' first
   | (with_reducible exact ih0 _ _ _ _ _ _ _ _)
   | (with_reducible exact cambistref01_Sum.mono _ _)
   | (with_reducible first | exact LeO.refl _ | exact LeO.none _ | refine LeO.ite ?_ ?_ | refine LeO.bind ?_ fun _ => ?_)
   | exact ih0 _ _ _ _ _ _ _ _
   | exact cambistref01_Sum.mono _ _
theorem cambistref19_whole.mono : ∀ a0 a1 a2 a3 a4 a5 k, LeO (cambistref19_whole.f k a0 a1 a2 a3 a4 a5) (cambistref19_whole.f (k + 1) a0 a1 a2 a3 a4 a5) := by
 intro a0 a1 a2 a3 a4 a5 k
 have ih0 := cambistref19_whole.mono_l k
 unfold cambistref19_whole.f
 repeat' first
   | (with_reducible exact ih0 _ _ _ _ _ _ _ _)
   | (with_reducible exact cambistref01_Sum.mono _ _)
   | (with_reducible first | exact LeO.refl _ | exact LeO.none _ | refine LeO.ite ?_ ?_ | refine LeO.bind ?_ fun _ => ?_)
   | exact ih0 _ _ _ _ _ _ _ _
   | exact cambistref01_Sum.mono _ _
set_option maxHeartbeats 8000000 in
set_option maxRecDepth 100000 in
theorem cambistref19_whole.calls (k : Nat) (a0_0 : ByteArray) (a0_1 : ByteArray) (a0_2 : Int) (a0_3 : Int) (A0_4 : Option Addr) (c0_4 : Nat) (l0_4 : List (S37)) (a0_5 : Int) (r1 : Int) (r2 : Int) (w : World) (hG : Glob w) (hr0_4 : Kd.C k37 w A0_4 l0_4.length l0_4) (hc0_4 : l0_4.length ≤ c0_4) (h : cambistref19_whole.f k a0_0 a0_1 a0_2 a0_3 l0_4 a0_5 = some (r1, r2)) :
  Calls Tryz.prog 38 #[.agg #[.string a0_0, .string a0_1, .int .u64 a0_2, .int .i64 a0_3, .slice A0_4 l0_4.length c0_4, .int .i64 a0_5]] w fun e w' => e = .returned (.tuple #[.int .i64 r1, .int .i64 r2]) ∧ Below w.heap.size w w' := by
 have hu25 := Tryz.underlying25
 have HG := a_ hG
 clear hG
 have HR0_4 := a_ hr0_4
 have HC0_4 := a_ hc0_4
 clear hr0_4 hc0_4
 have HB := a_ (Below.refl w.heap.size w)
 have H : (cambistref19_whole.l0 k (([a0_3] : List Int)) 0 a0_0 a0_1 a0_2 a0_3 l0_4 a0_5) = some (r1, r2) := h
 clear h
 obtain ⟨y180, hy180⟩ : ∃ y_ : List Int, y_ = (([a0_3] : List Int)) := ⟨_, rfl⟩
 replace H : (cambistref19_whole.l0 k y180 0 a0_0 a0_1 a0_2 a0_3 l0_4 a0_5) = some (r1, r2) := by first | (rw [hy180]; with_reducible exact H) | (have H2_ := (Option.bind_some _ _).symm.trans H; rw [hy180]; with_reducible exact H2_) | (have H2_ := (Option.bind_some _ _).symm.trans H; with_reducible exact H2_) | with_reducible exact H | (rw [hy180]; exact H) | exact H
 have Ny180 := a_ hy180
 clear hy180
 have H' := a_ H
 clear H
 go_enter Tryz.func38, Tryz.ntmps38
 go_wp2_with (first | ((with_reducible refine gate_dst (N := 1) rfl ?_); refine box_event ?hg (N := 1) ?hd (cs := #[.string a0_0, .string a0_1, .int .u64 a0_2, .int .i64 a0_3, .slice A0_4 l0_4.length c0_4, .int .i64 a0_5]) (t := 25) ?hr ?_; (case hd => rfl); (case hg => rfl); (case hr => first | (go_simp; done) | (go_simp; rfl)); intro gb179 hg w2 hbox hb; have n0_ := a_ (below_step z45_ hb); have n1_ := a_ (hbox); have n2_ := a_ ((z32_ : w.heap.size ≤ gb179)); have n3_ := a_ ((z32_ : w.heap.size ≤ gb179)); clear HB; have HB := n0_; have BK179 := n1_; have GW179 := n2_; have GE179 := n3_; clear n0_ n1_ n2_ n3_; clear hb hbox hg; have hcz3_0 : w2.cell? ⟨gb179, 0, none⟩ = some (.string a0_0) := (blk_cell BK179.out 0).trans rfl; have hcz3_1 : w2.cell? ⟨gb179, 1, none⟩ = some (.string a0_1) := (blk_cell BK179.out 1).trans rfl; have hcz3_2 : w2.cell? ⟨gb179, 2, none⟩ = some (.int .u64 a0_2) := (blk_cell BK179.out 2).trans rfl; have hcz3_3 : w2.cell? ⟨gb179, 3, none⟩ = some (.int .i64 a0_3) := (blk_cell BK179.out 3).trans rfl; have hcz3_4 : w2.cell? ⟨gb179, 4, none⟩ = some (.slice A0_4 l0_4.length c0_4) := (blk_cell BK179.out 4).trans rfl; have hcz3_5 : w2.cell? ⟨gb179, 5, none⟩ = some (.int .i64 a0_5) := (blk_cell BK179.out 5).trans rfl; have hfz3_0 := blk_frozen BK179.out 0; have hfz3_1 := blk_frozen BK179.out 1; have hfz3_2 := blk_frozen BK179.out 2; have hfz3_3 := blk_frozen BK179.out 3; have hfz3_4 := blk_frozen BK179.out 4; have hfz3_5 := blk_frozen BK179.out 5) | ((with_reducible refine gate_dst (N := 8) rfl ?_); refine Kd.R_lit (Kd.int .i64) _ 2 ?hg (N := 8) ?hd (xs := ([a0_3] : List Int)) (inner := [.int .i64 a0_3]) (ok := fun _ => True) (okp := fun _ => True) ?hr ?hp (fun _ hk => hk) trivial (Below.refl _ _) (Nat.le_refl _) (by simp) ?_; (case hd => rfl); (case hg => rfl); (case hr => first | (go_simp; done) | (go_simp; rfl)); (case hp => exact (Reps.one (show Kd.M (Kd.int .i64) _ _ _ a0_3 [.int .i64 a0_3] from rfl) (Reps.none _ _))); intro v181 w4 ho5 hb hg_ hnew_; clear hg_ hnew_; (first | rw [← Ny180.out] at ho5 | (simp only [Int.reduceToNat] at ho5; rw [← Ny180.out] at ho5)); have n0_ := a_ (Kd.R_lower ho5 (below_size z37_)); have n1_ := a_ (blk_below (g := gb179) (o := .cells #[.string a0_0, .string a0_1, .int .u64 a0_2, .int .i64 a0_3, .slice A0_4 l0_4.length c0_4, .int .i64 a0_5] 25 (0, 0)) z66_ hb); have n2_ := a_ (below_step z37_ hb); clear BK179; clear HB; have HO182 := n0_; have BK179 := n1_; have HB := n2_; clear n0_ n1_ n2_; clear hb ho5))
 go_loopg [4, 5] k (fun kq v4 v5 w' => ∃ (x4_1 : List Int) (x5_1 : Int), v5 = .int .i64 x5_1 ∧ Aside0 (cambistref19_whole.l0 kq x4_1 x5_1 a0_0 a0_1 a0_2 a0_3 l0_4 a0_5 = some (r1, r2)) ∧ Aside0 (kq ≤ k) ∧ Aside0 (Kd.R (Kd.int .i64) 2 w' w.heap.size (fun _ => True) v4 x4_1) ∧ Aside0 (w'.heap[gb179]? = some (.cells #[.string a0_0, .string a0_1, .int .u64 a0_2, .int .i64 a0_3, (.slice A0_4 l0_4.length c0_4), .int .i64 a0_5] 25 (0, 0))) ∧ Aside0 (Below w.heap.size w w'))
 case atStart => exact ⟨(y180), (0), z80_, H', ⟨Nat.le_refl _⟩, ⟨by (with_reducible repeat (first | apply Kd.R_alloc | apply Kd.R_drewN | apply Kd.R_drew)); exact HO182.out⟩, ⟨z66_⟩, ⟨z37_⟩⟩
 case round =>
  clear H'
  try clear p2
  try clear c3
  try clear hcz3_0
  try clear hcz3_1
  try clear hcz3_2
  try clear hcz3_3
  try clear hcz3_4
  try clear hcz3_5
  try clear hfz3_0
  try clear hfz3_1
  try clear hfz3_2
  try clear hfz3_3
  try clear hfz3_4
  try clear hfz3_5
  obtain ⟨x4_1, x5_1, rfl, HA, HK1, HO_4, BK179, HB⟩ := hrel
  cases gk with
  | zero => exact absurd HA.out (by simp [cambistref19_whole.l0])
  | succ k1 =>
   have H := HA.out
   clear HA
   simp only [cambistref19_whole.l0] at H
   by_cases c6 : x5_1 < (l0_4.length : Int)
   ·rw [if_pos c6] at H
    have c6b0 : decide (x5_1 < (l0_4.length : Int)) = true := decide_eq_true c6
    clear c6
    by_cases c7 : 0 ≤ x5_1
    ·rw [if_pos c7] at H
     have c7b0 : decide (0 ≤ x5_1) = true := decide_eq_true c7
     clear c7
     by_cases c8 : x4_1.length < 17592186044416
     ·rw [if_pos c8] at H
      have LMc8 := a_ c8
      clear c8
      obtain ⟨y184, hy184⟩ : ∃ y_ : List Int, y_ = (x4_1 ++ [(rd_T37 l0_4 x5_1).f2]) := ⟨_, rfl⟩
      replace H : (cambistref19_whole.l0 k1 y184 (wrap64 (x5_1 + 1)) a0_0 a0_1 a0_2 a0_3 l0_4 a0_5) = some (r1, r2) := by first | (rw [hy184]; with_reducible exact H) | (have H2_ := (Option.bind_some _ _).symm.trans H; rw [hy184]; with_reducible exact H2_) | (have H2_ := (Option.bind_some _ _).symm.trans H; with_reducible exact H2_) | with_reducible exact H | (rw [hy184]; exact H) | exact H
      have Ny184 := a_ hy184
      clear hy184
      have H' := a_ H
      clear H
      have hcz9_0 : wr.cell? ⟨gb179, 0, none⟩ = some (.string a0_0) := (blk_cell BK179.out 0).trans rfl
      have hcz9_1 : wr.cell? ⟨gb179, 1, none⟩ = some (.string a0_1) := (blk_cell BK179.out 1).trans rfl
      have hcz9_2 : wr.cell? ⟨gb179, 2, none⟩ = some (.int .u64 a0_2) := (blk_cell BK179.out 2).trans rfl
      have hcz9_3 : wr.cell? ⟨gb179, 3, none⟩ = some (.int .i64 a0_3) := (blk_cell BK179.out 3).trans rfl
      have hcz9_4 : wr.cell? ⟨gb179, 4, none⟩ = some (.slice A0_4 l0_4.length c0_4) := (blk_cell BK179.out 4).trans rfl
      have hcz9_5 : wr.cell? ⟨gb179, 5, none⟩ = some (.int .i64 a0_5) := (blk_cell BK179.out 5).trans rfl
      have hfz9_0 := blk_frozen BK179.out 0
      have hfz9_1 := blk_frozen BK179.out 1
      have hfz9_2 := blk_frozen BK179.out 2
      have hfz9_3 := blk_frozen BK179.out 3
      have hfz9_4 := blk_frozen BK179.out 4
      have hfz9_5 := blk_frozen BK179.out 5
      have p183 : 0 ≤ (x5_1 : Int) := of_decide_eq_true z79_
      have q183 : x5_1 < (l0_4.length : Int) := of_decide_eq_true z79_
      obtain ⟨ad183, e183, hx183_0, hx183_1, hx183_2⟩ := at_T37 HR0_4.out x5_1 p183 q183
      cases e183
      replace hx183_0 := (HB.out.cell (World.block_lt_of_cell? w _ hx183_0)).trans hx183_0
      replace hx183_1 := (HB.out.cell (World.block_lt_of_cell? w _ hx183_1)).trans hx183_1
      replace hx183_2 := (HB.out.cell (World.block_lt_of_cell? w _ hx183_2)).trans hx183_2
      replace p183 := eq_true p183
      replace q183 := eq_true q183
      go_wp2_with (first | ((with_reducible refine gate_builtin (b := .append) (xs := #[.tmp 16, .tmp 23]) rfl ?_); at_builtin; refine Kd.R_append (Kd.int .i64) (w0 := w) w.heap.size rfl (.tmp 16) (.tmp 23) 83 2 (.int .i64 0) 8 rfl Tryz.underlying83 info2 rfl (by decide) (by omega) u4 x4_1 ((rd_T37 l0_4 x5_1).f2) [.int .i64 ((rd_T37 l0_4 x5_1).f2)] (fun _ => True) (fun _ => False) rfl rfl ?aP (fun _ hk => hk.elim) ?aF ?aO ?aB ?aS ?aL ?_; (case aP => exact rfl); (case aB => exact z37_); (case aF => exact (fun _ _ => trivial)); (case aO => exact z53_); (case aS => exact (below_size z37_)); (case aL => have := LMc8.out; omega); intro v185 w10 ho hb hg hat; rw [← Ny184.out] at ho; have n0_ := a_ (blk_grown (g := gb179) (o := .cells #[.string a0_0, .string a0_1, .int .u64 a0_2, .int .i64 a0_3, .slice (some ad183) l0_4.length c0_4, .int .i64 a0_5] 25 (0, 0)) z66_ hg (Kd.R_ne HO_4.out BK179.out (by decide))); have n1_ := a_ (hb); have n2_ := a_ (ho); clear BK179; clear HB; clear HO_4; have BK179 := n0_; have HB := n1_; have HO186 := n2_; clear n0_ n1_ n2_; clear ho hb hg hat))
      go_roundg k1
      case measure => have := HK1.out; omega
      case rel => exact ⟨(y184), (wrap64 (x5_1 + 1)), z80_, H', ⟨z84_⟩, ⟨by (with_reducible repeat (first | apply Kd.R_alloc | apply Kd.R_drewN | apply Kd.R_drew)); exact HO186.out⟩, ⟨z66_⟩, ⟨z37_⟩⟩
     ·rw [if_neg c8] at H
      exact absurd H (by simp)
    ·rw [if_neg c7] at H
     exact absurd H (by simp)
   ·rw [if_neg c6] at H
    have c6b0 : decide (x5_1 < (l0_4.length : Int)) = false := decide_eq_false c6
    clear c6
    replace H := Option.bind_eq_some_iff.mp H
    obtain ⟨⟨t187, t188⟩, A110, H⟩ := H
    replace H : (some (t187, t188)) = some (r1, r2) := H
    have A11 := a_ A110
    clear A110
    simp only [Option.some.injEq, Prod.mk.injEq] at H
    obtain ⟨rfl, rfl⟩ := H
    have hcz12_0 : wr.cell? ⟨gb179, 0, none⟩ = some (.string a0_0) := (blk_cell BK179.out 0).trans rfl
    have hcz12_1 : wr.cell? ⟨gb179, 1, none⟩ = some (.string a0_1) := (blk_cell BK179.out 1).trans rfl
    have hcz12_2 : wr.cell? ⟨gb179, 2, none⟩ = some (.int .u64 a0_2) := (blk_cell BK179.out 2).trans rfl
    have hcz12_3 : wr.cell? ⟨gb179, 3, none⟩ = some (.int .i64 a0_3) := (blk_cell BK179.out 3).trans rfl
    have hcz12_4 : wr.cell? ⟨gb179, 4, none⟩ = some (.slice A0_4 l0_4.length c0_4) := (blk_cell BK179.out 4).trans rfl
    have hcz12_5 : wr.cell? ⟨gb179, 5, none⟩ = some (.int .i64 a0_5) := (blk_cell BK179.out 5).trans rfl
    have hfz12_0 := blk_frozen BK179.out 0
    have hfz12_1 := blk_frozen BK179.out 1
    have hfz12_2 := blk_frozen BK179.out 2
    have hfz12_3 := blk_frozen BK179.out 3
    have hfz12_4 := blk_frozen BK179.out 4
    have hfz12_5 := blk_frozen BK179.out 5
    obtain ⟨Ao13, co13, eo13⟩ := Kd.R_slice HO_4.out
    subst eo13
    go_wp2_with (first | ((with_reducible refine gate_callee (f := 55) rfl ?_); refine goesL_ (some 26) rfl rfl Tryz.func55 z85_ rfl #[.slice Ao13 x4_1.length co13] rfl z31_ ?_; (with_reducible refine (cambistref01_Sum.calls k1 _ _ x4_1 t187 t188 _ ?side1 ?side2 ?side3 A11.out).mono ?_); (case side1 => exact Glob.below HG.out z37_); (case side2 => repeat (first | exact (Kd.R_reads' HO_4.out).2.2 | (with_reducible refine Kd.C_alloc ?_ _) | (with_reducible refine Kd.C_drewN ?_ _) | (with_reducible refine Kd.C_drew ?_))); (case side3 => exact (Kd.R_reads' HO_4.out).2.1); rintro e w14 ⟨rfl, hb⟩; refine ⟨_, rfl, ?_⟩; have n0_ := a_ (Kd.R_below z53_ hb); have n1_ := a_ (blk_below (g := gb179) (o := .cells #[.string a0_0, .string a0_1, .int .u64 a0_2, .int .i64 a0_3, .slice A0_4 l0_4.length c0_4, .int .i64 a0_5] 25 (0, 0)) z66_ hb); have n2_ := a_ (below_step z37_ hb); clear HO_4; clear BK179; clear HB; have HO_4 := n0_; have BK179 := n1_; have HB := n2_; clear n0_ n1_ n2_; (try clear hb); (try clear hb2); (try clear hk); (try clear hi)))
    go_ret2
    exact ⟨z76_, z37_⟩

end Go.Proofs.YtnngbnhbmgdkoaaGreatDoor.P
