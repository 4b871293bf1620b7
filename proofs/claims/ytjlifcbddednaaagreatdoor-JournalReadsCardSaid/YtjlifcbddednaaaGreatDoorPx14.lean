-- Laid by wip/tools/cprint.py of this claim's own repo (over the kit's print).
import Derived.Test.YtjlifcbddednaaaGreatDoorSq
import Derived.Test.YtjlifcbddednaaaGreatDoorPx0
import Derived.Test.YtjlifcbddednaaaGreatDoorPx11
namespace Go.Proofs.YtjlifcbddednaaaGreatDoor.P
open Go.RowKit Go.Proofs.YtjlifcbddednaaaGreatDoor.E Go.Proofs.YtjlifcbddednaaaGreatDoorW.PrintWords Go.Proofs.YtjlifcbddednaaaGreatDoorW.PrintLast
set_option linter.unusedVariables false
set_option linter.unusedSimpArgs false

/-! ### cambistref12_Sum: function 9 -/
mutual
def cambistref12_Sum.l0 : Nat → List (S39) → ByteArray → ByteArray → Int → Int → List Int → Int → Option (Int × Int)
 | 0, _, _, _, _, _, _, _ => none
 | k + 1, x0, x1, x2, x3, x4, x12, x13 => if x13 < (x0.length : Int) then (cambistref12_Sum.l1 k x0 x1 x2 x3 x4 x12 x13 0) else ((cambistref01_Sum.f k x12).bind fun bt336 => (some (bt336.1, bt336.2)))
def cambistref12_Sum.l1 : Nat → List (S39) → ByteArray → ByteArray → Int → Int → List Int → Int → Int → Option (Int × Int)
 | 0, _, _, _, _, _, _, _, _ => none
 | k + 1, x0, x1, x2, x3, x4, x12, x13, x14 => if 0 ≤ x13 then (if x13 < (x0.length : Int) then (if x14 < (((rd_T39 x0 x13).f3).length : Int) then (if ((rd_T39 x0 x13).f1) ≥ x3 then (cambistref12_Sum.j2 k x0 x1 x2 x3 x4 x12 x13 x14 (decide (((rd_T39 x0 x13).f1) < x4))) else (cambistref12_Sum.j2 k x0 x1 x2 x3 x4 x12 x13 x14 false)) else (cambistref12_Sum.j2 k x0 x1 x2 x3 x4 x12 x13 x14 false)) else (none)) else (none)
def cambistref12_Sum.j2 : Nat → List (S39) → ByteArray → ByteArray → Int → Int → List Int → Int → Int → Bool → Option (Int × Int)
 | 0, _, _, _, _, _, _, _, _, _ => none
 | k + 1, x0, x1, x2, x3, x4, x12, x13, x14, x47 => if x47 = true then (if 0 ≤ x13 then (if x13 < (x0.length : Int) then (if 0 ≤ x14 then (if x14 < (((rd_T39 x0 x13).f3).length : Int) then (if ((rd_T36 ((rd_T39 x0 x13).f3) x14).f0).toList = x1.toList then (if ((rd_T36 ((rd_T39 x0 x13).f3) x14).f1).toList = x2.toList then (if x12.length < 17592186044416 then (cambistref12_Sum.l1 k x0 x1 x2 x3 x4 (x12 ++ [(rd_T36 ((rd_T39 x0 x13).f3) x14).f2]) x13 (wrap64 (x14 + 1))) else (none)) else (cambistref12_Sum.l1 k x0 x1 x2 x3 x4 x12 x13 (wrap64 (x14 + 1)))) else (cambistref12_Sum.l1 k x0 x1 x2 x3 x4 x12 x13 (wrap64 (x14 + 1)))) else (none)) else (none)) else (none)) else (none)) else (cambistref12_Sum.l0 k x0 x1 x2 x3 x4 x12 (wrap64 (x13 + 1)))
end
def cambistref12_Sum.f (k : Nat) (l0 : List (S39)) (a1 : ByteArray) (a2 : ByteArray) (a3 : Int) (a4 : Int) : Option (Int × Int) := cambistref12_Sum.l0 k l0 a1 a2 a3 a4 ([] : List Int) 0
theorem cambistref12_Sum.mono_l : ∀ k, (∀ y0 y1 y2 y3 y4 y5 y6, LeO (cambistref12_Sum.l0 k y0 y1 y2 y3 y4 y5 y6) (cambistref12_Sum.l0 (k + 1) y0 y1 y2 y3 y4 y5 y6)) ∧ (∀ y0 y1 y2 y3 y4 y5 y6 y7, LeO (cambistref12_Sum.l1 k y0 y1 y2 y3 y4 y5 y6 y7) (cambistref12_Sum.l1 (k + 1) y0 y1 y2 y3 y4 y5 y6 y7)) ∧ (∀ y0 y1 y2 y3 y4 y5 y6 y7 y8, LeO (cambistref12_Sum.j2 k y0 y1 y2 y3 y4 y5 y6 y7 y8) (cambistref12_Sum.j2 (k + 1) y0 y1 y2 y3 y4 y5 y6 y7 y8))
 | 0 => ⟨fun _ _ _ _ _ _ _ r h => by simp [cambistref12_Sum.l0] at h, fun _ _ _ _ _ _ _ _ r h => by simp [cambistref12_Sum.l1] at h, fun _ _ _ _ _ _ _ _ _ r h => by simp [cambistref12_Sum.j2] at h⟩
 | k + 1 => by
  obtain ⟨ih0, ih1, ih2⟩ := cambistref12_Sum.mono_l k
  refine ⟨?_, ?_, ?_⟩
  ·intro y0 y1 y2 y3 y4 y5 y6
   unfold cambistref12_Sum.l0
   repeat' first
   | (with_reducible exact ih0 _ _ _ _ _ _ _)
   | (with_reducible exact ih1 _ _ _ _ _ _ _ _)
   | (with_reducible exact ih2 _ _ _ _ _ _ _ _ _)
   | (with_reducible exact cambistref01_Sum.mono _ _)
   | (with_reducible first | exact LeO.refl _ | exact LeO.none _ | refine LeO.ite ?_ ?_ | refine LeO.bind ?_ fun _ => ?_)
   | exact ih0 _ _ _ _ _ _ _
   | exact ih1 _ _ _ _ _ _ _ _
   | exact ih2 _ _ _ _ _ _ _ _ _
   | exact cambistref01_Sum.mono _ _
  ·intro y0 y1 y2 y3 y4 y5 y6 y7
   unfold cambistref12_Sum.l1
   repeat' first
   | (with_reducible exact ih0 _ _ _ _ _ _ _)
   | (with_reducible exact ih1 _ _ _ _ _ _ _ _)
   | (with_reducible exact ih2 _ _ _ _ _ _ _ _ _)
   | (with_reducible exact cambistref01_Sum.mono _ _)
   | (with_reducible first | exact LeO.refl _ | exact LeO.none _ | refine LeO.ite ?_ ?_ | refine LeO.bind ?_ fun _ => ?_)
   | exact ih0 _ _ _ _ _ _ _
   | exact ih1 _ _ _ _ _ _ _ _
   | exact ih2 _ _ _ _ _ _ _ _ _
   | exact cambistref01_Sum.mono _ _
  ·intro y0 y1 y2 y3 y4 y5 y6 y7 y8
   unfold cambistref12_Sum.j2
   repeat' first
   | (with_reducible exact ih0 _ _ _ _ _ _ _)
   | (with_reducible exact ih1 _ _ _ _ _ _ _ _)
   | (with_reducible exact ih2 _ _ _ _ _ _ _ _ _)
   | (with_reducible exact cambistref01_Sum.mono _ _)
   | (with_reducible first | exact LeO.refl _ | exact LeO.none _ | refine LeO.ite ?_ ?_ | refine LeO.bind ?_ fun _ => ?_)
   | exact ih0 _ _ _ _ _ _ _
   | exact ih1 _ _ _ _ _ _ _ _
   | exact ih2 _ _ _ _ _ _ _ _ _
   | exact cambistref01_Sum.mono _ _
theorem cambistref12_Sum.mono : ∀ a0 a1 a2 a3 a4 k, LeO (cambistref12_Sum.f k a0 a1 a2 a3 a4) (cambistref12_Sum.f (k + 1) a0 a1 a2 a3 a4) := by
 intro a0 a1 a2 a3 a4 k
 obtain ⟨ih0, ih1, ih2⟩ := cambistref12_Sum.mono_l k
 unfold cambistref12_Sum.f
 repeat' first
   | (with_reducible exact ih0 _ _ _ _ _ _ _)
   | (with_reducible exact ih1 _ _ _ _ _ _ _ _)
   | (with_reducible exact ih2 _ _ _ _ _ _ _ _ _)
   | (with_reducible exact cambistref01_Sum.mono _ _)
   | (with_reducible first | exact LeO.refl _ | exact LeO.none _ | refine LeO.ite ?_ ?_ | refine LeO.bind ?_ fun _ => ?_)
   | exact ih0 _ _ _ _ _ _ _
   | exact ih1 _ _ _ _ _ _ _ _
   | exact ih2 _ _ _ _ _ _ _ _ _
   | exact cambistref01_Sum.mono _ _
set_option maxHeartbeats 8000000 in
set_option maxRecDepth 100000 in
theorem cambistref12_Sum.calls (k : Nat) (A0 : Option Addr) (c0 : Nat) (l0 : List (S39)) (a1 : ByteArray) (a2 : ByteArray) (a3 : Int) (a4 : Int) (r1 : Int) (r2 : Int) (w : World) (hG : Glob w) (hr0 : Kd.C k39 w A0 l0.length l0) (hc0 : l0.length ≤ c0) (h : cambistref12_Sum.f k l0 a1 a2 a3 a4 = some (r1, r2)) :
  Calls Tryz.prog 9 #[.slice A0 l0.length c0, .string a1, .string a2, .int .u64 a3, .int .u64 a4] w fun e w' => e = .returned (.tuple #[.int .i64 r1, .int .i64 r2]) ∧ Below w.heap.size w w' := by
 have hu36 := Tryz.underlying36
 have HG := a_ hG
 clear hG
 have HR0 := a_ hr0
 have HC0 := a_ hc0
 clear hr0 hc0
 have HB := a_ (Below.refl w.heap.size w)
 have H : (cambistref12_Sum.l0 k l0 a1 a2 a3 a4 ([] : List Int) 0) = some (r1, r2) := h
 clear h
 have H' := a_ H
 clear H
 go_enter Tryz.func9, Tryz.ntmps9
 go_wp2
 go_loopg [12, 13] k (fun kq v12 v13 w' => ∃ (x12_1 : List Int) (x13_1 : Int), v13 = .int .i64 x13_1 ∧ Aside0 (cambistref12_Sum.l0 kq l0 a1 a2 a3 a4 x12_1 x13_1 = some (r1, r2)) ∧ Aside0 (kq ≤ k) ∧ Aside0 (Kd.R (Kd.int .i64) 2 w' w.heap.size (fun _ => True) v12 x12_1) ∧ Aside0 (Below w.heap.size w w'))
 case atStart => exact ⟨(([] : List Int)), (0), z71_, H', ⟨Nat.le_refl _⟩, ⟨z18_⟩, ⟨z33_⟩⟩
 case round =>
  clear H'
  try clear p2
  obtain ⟨x12_1, x13_1, rfl, HA, HK1, HO_12, HB⟩ := hrel
  cases gk with
  | zero => exact absurd HA.out (by simp [cambistref12_Sum.l0])
  | succ k1 =>
   have H := HA.out
   clear HA
   simp only [cambistref12_Sum.l0] at H
   by_cases c6 : x13_1 < (l0.length : Int)
   ·rw [if_pos c6] at H
    have c6b0 : decide (x13_1 < (l0.length : Int)) = true := decide_eq_true c6
    clear c6
    have H' := a_ H
    clear H
    go_wp2
    go_loopg [12, 14] k1 (fun kq v12 v14 w' => ∃ (x12_2 : List Int) (x14_2 : Int), v14 = .int .i64 x14_2 ∧ Aside0 (cambistref12_Sum.l1 kq l0 a1 a2 a3 a4 x12_2 x13_1 x14_2 = some (r1, r2)) ∧ Aside0 (kq ≤ k1) ∧ Aside0 (Kd.R (Kd.int .i64) 2 w' w.heap.size (fun _ => True) v12 x12_2) ∧ Aside0 (Below w.heap.size w w'))
    case atStart => exact ⟨(x12_1), (0), z71_, H', ⟨Nat.le_refl _⟩, ⟨z40_⟩, ⟨z33_⟩⟩
    case round =>
     clear H'
     try clear p2
     try clear c6
     try clear c6b0
     try clear p2
     obtain ⟨x12_2, x14_2, rfl, HA, HK2, HO_12, HB⟩ := hrel
     cases gk with
     | zero => exact absurd HA.out (by simp [cambistref12_Sum.l1])
     | succ k2 =>
      have H := HA.out
      clear HA
      simp only [cambistref12_Sum.l1] at H
      have HC7 := a_ H
      clear H
      go_upto_region 6 with (fail)
      go_cut [47] (fun v47 wc => ∃ (kq : Nat) (x47_6 : Bool), v47 = .bool x47_6 ∧ Aside0 (cambistref12_Sum.j2 kq l0 a1 a2 a3 a4 x12_2 x13_1 x14_2 x47_6 = some (r1, r2)) ∧ Aside0 (kq ≤ k2) ∧ Aside0 (Kd.R (Kd.int .i64) 2 wc w.heap.size (fun _ => True) u12 x12_2) ∧ Aside0 (Below w.heap.size w wc))
      case first =>
       have H := HC7.out
       clear HC7
       by_cases c8 : 0 ≤ x13_1
       ·rw [if_pos c8] at H
        have c8b0 : decide (0 ≤ x13_1) = true := decide_eq_true c8
        clear c8
        (first | rw [c8b0] | (simp only [i64_w, i32_w]; rw [c8b0]) | skip)
        by_cases c9 : x13_1 < (l0.length : Int)
        ·rw [if_pos c9] at H
         have c9b0 : decide (x13_1 < (l0.length : Int)) = true := decide_eq_true c9
         clear c9
         by_cases c10 : x14_2 < (((rd_T39 l0 x13_1).f3).length : Int)
         ·rw [if_pos c10] at H
          have c10b0 : decide (x14_2 < (((rd_T39 l0 x13_1).f3).length : Int)) = true := decide_eq_true c10
          clear c10
          by_cases c11 : ((rd_T39 l0 x13_1).f1) ≥ a3
          ·rw [if_pos c11] at H
           have c11b0 : decide (a3 ≤ ((rd_T39 l0 x13_1).f1)) = true := decide_eq_true c11
           clear c11
           have H' := a_ H
           clear H
           have p338 : 0 ≤ (x13_1 : Int) := of_decide_eq_true z70_
           have q338 : x13_1 < (l0.length : Int) := of_decide_eq_true z70_
           obtain ⟨ad338, A338_3, c338_3, e338, hx338_0, hx338_1, hx338_2, hx338_3, hl338_3, hi338_3⟩ := at_T39 HR0.out x13_1 p338 q338
           cases e338
           replace hx338_0 := (HB.out.cell (World.block_lt_of_cell? w _ hx338_0)).trans hx338_0
           replace hx338_1 := (HB.out.cell (World.block_lt_of_cell? w _ hx338_1)).trans hx338_1
           replace hx338_2 := (HB.out.cell (World.block_lt_of_cell? w _ hx338_2)).trans hx338_2
           replace hx338_3 := (HB.out.cell (World.block_lt_of_cell? w _ hx338_3)).trans hx338_3
           have HR338_3 := a_ hi338_3
           have HC338_3 := a_ hl338_3
           clear hi338_3 hl338_3
           replace p338 := eq_true p338
           replace q338 := eq_true q338
           have p339 : 0 ≤ (x13_1 : Int) := of_decide_eq_true z70_
           have q339 : x13_1 < (l0.length : Int) := of_decide_eq_true z70_
           obtain ⟨ad339, A339_3, c339_3, e339, hx339_0, hx339_1, hx339_2, hx339_3, hl339_3, hi339_3⟩ := at_T39 HR0.out x13_1 p339 q339
           obtain rfl : ad338 = ad339 := (by injection e339)
           replace hx339_0 := (HB.out.cell (World.block_lt_of_cell? w _ hx339_0)).trans hx339_0
           replace hx339_1 := (HB.out.cell (World.block_lt_of_cell? w _ hx339_1)).trans hx339_1
           replace hx339_2 := (HB.out.cell (World.block_lt_of_cell? w _ hx339_2)).trans hx339_2
           replace hx339_3 := (HB.out.cell (World.block_lt_of_cell? w _ hx339_3)).trans hx339_3
           have HR339_3 := a_ hi339_3
           have HC339_3 := a_ hl339_3
           clear hi339_3 hl339_3
           replace p339 := eq_true p339
           replace q339 := eq_true q339
           have ea_ := Option.some.inj (hx338_3.symm.trans hx339_3)
           injection ea_ with ea_ en_ ec_
           subst ea_
           subst ec_
           clear en_
           have p340 : 0 ≤ (x13_1 : Int) := of_decide_eq_true z70_
           have q340 : x13_1 < (l0.length : Int) := of_decide_eq_true z70_
           obtain ⟨ad340, A340_3, c340_3, e340, hx340_0, hx340_1, hx340_2, hx340_3, hl340_3, hi340_3⟩ := at_T39 HR0.out x13_1 p340 q340
           obtain rfl : ad338 = ad340 := (by injection e340)
           replace hx340_0 := (HB.out.cell (World.block_lt_of_cell? w _ hx340_0)).trans hx340_0
           replace hx340_1 := (HB.out.cell (World.block_lt_of_cell? w _ hx340_1)).trans hx340_1
           replace hx340_2 := (HB.out.cell (World.block_lt_of_cell? w _ hx340_2)).trans hx340_2
           replace hx340_3 := (HB.out.cell (World.block_lt_of_cell? w _ hx340_3)).trans hx340_3
           have HR340_3 := a_ hi340_3
           have HC340_3 := a_ hl340_3
           clear hi340_3 hl340_3
           replace p340 := eq_true p340
           replace q340 := eq_true q340
           have ea_ := Option.some.inj (hx338_3.symm.trans hx340_3)
           injection ea_ with ea_ en_ ec_
           subst ea_
           subst ec_
           clear en_
           go_wp2
           go_meet
           case rel => exact ⟨_, (decide (((rd_T39 l0 x13_1).f1) < a4)), z71_, H', ⟨z66_⟩, ⟨z40_⟩, ⟨z33_⟩⟩
          ·rw [if_neg c11] at H
           have c11b0 : decide (a3 ≤ ((rd_T39 l0 x13_1).f1)) = false := decide_eq_false c11
           clear c11
           have H' := a_ H
           clear H
           have p338 : 0 ≤ (x13_1 : Int) := of_decide_eq_true z70_
           have q338 : x13_1 < (l0.length : Int) := of_decide_eq_true z70_
           obtain ⟨ad338, A338_3, c338_3, e338, hx338_0, hx338_1, hx338_2, hx338_3, hl338_3, hi338_3⟩ := at_T39 HR0.out x13_1 p338 q338
           cases e338
           replace hx338_0 := (HB.out.cell (World.block_lt_of_cell? w _ hx338_0)).trans hx338_0
           replace hx338_1 := (HB.out.cell (World.block_lt_of_cell? w _ hx338_1)).trans hx338_1
           replace hx338_2 := (HB.out.cell (World.block_lt_of_cell? w _ hx338_2)).trans hx338_2
           replace hx338_3 := (HB.out.cell (World.block_lt_of_cell? w _ hx338_3)).trans hx338_3
           have HR338_3 := a_ hi338_3
           have HC338_3 := a_ hl338_3
           clear hi338_3 hl338_3
           replace p338 := eq_true p338
           replace q338 := eq_true q338
           have p339 : 0 ≤ (x13_1 : Int) := of_decide_eq_true z70_
           have q339 : x13_1 < (l0.length : Int) := of_decide_eq_true z70_
           obtain ⟨ad339, A339_3, c339_3, e339, hx339_0, hx339_1, hx339_2, hx339_3, hl339_3, hi339_3⟩ := at_T39 HR0.out x13_1 p339 q339
           obtain rfl : ad338 = ad339 := (by injection e339)
           replace hx339_0 := (HB.out.cell (World.block_lt_of_cell? w _ hx339_0)).trans hx339_0
           replace hx339_1 := (HB.out.cell (World.block_lt_of_cell? w _ hx339_1)).trans hx339_1
           replace hx339_2 := (HB.out.cell (World.block_lt_of_cell? w _ hx339_2)).trans hx339_2
           replace hx339_3 := (HB.out.cell (World.block_lt_of_cell? w _ hx339_3)).trans hx339_3
           have HR339_3 := a_ hi339_3
           have HC339_3 := a_ hl339_3
           clear hi339_3 hl339_3
           replace p339 := eq_true p339
           replace q339 := eq_true q339
           have ea_ := Option.some.inj (hx338_3.symm.trans hx339_3)
           injection ea_ with ea_ en_ ec_
           subst ea_
           subst ec_
           clear en_
           go_wp2
           go_meet
           case rel => exact ⟨_, (false), z71_, H', ⟨z66_⟩, ⟨z40_⟩, ⟨z33_⟩⟩
         ·rw [if_neg c10] at H
          have c10b0 : decide (x14_2 < (((rd_T39 l0 x13_1).f3).length : Int)) = false := decide_eq_false c10
          clear c10
          have H' := a_ H
          clear H
          have p338 : 0 ≤ (x13_1 : Int) := of_decide_eq_true z70_
          have q338 : x13_1 < (l0.length : Int) := of_decide_eq_true z70_
          obtain ⟨ad338, A338_3, c338_3, e338, hx338_0, hx338_1, hx338_2, hx338_3, hl338_3, hi338_3⟩ := at_T39 HR0.out x13_1 p338 q338
          cases e338
          replace hx338_0 := (HB.out.cell (World.block_lt_of_cell? w _ hx338_0)).trans hx338_0
          replace hx338_1 := (HB.out.cell (World.block_lt_of_cell? w _ hx338_1)).trans hx338_1
          replace hx338_2 := (HB.out.cell (World.block_lt_of_cell? w _ hx338_2)).trans hx338_2
          replace hx338_3 := (HB.out.cell (World.block_lt_of_cell? w _ hx338_3)).trans hx338_3
          have HR338_3 := a_ hi338_3
          have HC338_3 := a_ hl338_3
          clear hi338_3 hl338_3
          replace p338 := eq_true p338
          replace q338 := eq_true q338
          go_wp2
          go_meet
          case rel => exact ⟨_, (false), z71_, H', ⟨z66_⟩, ⟨z40_⟩, ⟨z33_⟩⟩
        ·rw [if_neg c9] at H
         exact absurd H (by simp)
       ·rw [if_neg c8] at H
        exact absurd H (by simp)
      case rest =>
       clear HC7
       try clear c1
       try clear p2
       try clear c3
       try clear p3
       try clear q3
       try clear hx3
       try clear c6
       try clear c6b0
       try clear c8
       try clear c8b0
       try clear c9
       try clear c9b0
       try clear c10
       try clear c10b0
       try clear c11
       try clear c11b0
       try clear hx338_0
       try clear hx338_1
       try clear hx338_2
       try clear hx338_3
       try clear hx339_0
       try clear hx339_1
       try clear hx339_2
       try clear hx339_3
       try clear hx340_0
       try clear hx340_1
       try clear hx340_2
       try clear hx340_3
       try clear p2
       try clear p338
       try clear p339
       try clear p340
       try clear q338
       try clear q339
       try clear q340
       obtain ⟨kq, x47_6, rfl, HA, HJ6, HO_12, HB⟩ := hcut
       cases kq with
       | zero => exact absurd HA.out (by simp [cambistref12_Sum.j2])
       | succ kj6 =>
        have H := HA.out
        clear HA
        simp only [cambistref12_Sum.j2] at H
        by_cases c12 : x47_6 = true
        ·subst c12
         have H1 : (if 0 ≤ x13_1 then (if x13_1 < (l0.length : Int) then (if 0 ≤ x14_2 then (if x14_2 < (((rd_T39 l0 x13_1).f3).length : Int) then (if ((rd_T36 ((rd_T39 l0 x13_1).f3) x14_2).f0).toList = a1.toList then (if ((rd_T36 ((rd_T39 l0 x13_1).f3) x14_2).f1).toList = a2.toList then (if x12_2.length < 17592186044416 then (cambistref12_Sum.l1 kj6 l0 a1 a2 a3 a4 (x12_2 ++ [(rd_T36 ((rd_T39 l0 x13_1).f3) x14_2).f2]) x13_1 (wrap64 (x14_2 + 1))) else (none)) else (cambistref12_Sum.l1 kj6 l0 a1 a2 a3 a4 x12_2 x13_1 (wrap64 (x14_2 + 1)))) else (cambistref12_Sum.l1 kj6 l0 a1 a2 a3 a4 x12_2 x13_1 (wrap64 (x14_2 + 1)))) else (none)) else (none)) else (none)) else (none)) = some (r1, r2) := by rw [if_pos rfl] at H; exact H
         clear H
         have H := H1
         clear H1
         by_cases c13 : 0 ≤ x13_1
         ·rw [if_pos c13] at H
          have c13b0 : decide (0 ≤ x13_1) = true := decide_eq_true c13
          clear c13
          by_cases c14 : x13_1 < (l0.length : Int)
          ·rw [if_pos c14] at H
           have c14b0 : decide (x13_1 < (l0.length : Int)) = true := decide_eq_true c14
           clear c14
           by_cases c15 : 0 ≤ x14_2
           ·rw [if_pos c15] at H
            have c15b0 : decide (0 ≤ x14_2) = true := decide_eq_true c15
            clear c15
            by_cases c16 : x14_2 < (((rd_T39 l0 x13_1).f3).length : Int)
            ·rw [if_pos c16] at H
             have c16b0 : decide (x14_2 < (((rd_T39 l0 x13_1).f3).length : Int)) = true := decide_eq_true c16
             clear c16
             by_cases c17 : ((rd_T36 ((rd_T39 l0 x13_1).f3) x14_2).f0).toList = a1.toList
             ·rw [if_pos c17] at H
              have c17b0 : (((rd_T36 ((rd_T39 l0 x13_1).f3) x14_2).f0).toList == a1.toList) = true := beq_iff_eq.mpr c17
              have c17b1 : (((rd_T36 ((rd_T39 l0 x13_1).f3) x14_2).f0).toList != a1.toList) = false := bne_eq_false_iff_eq.mpr c17
              clear c17
              by_cases c18 : ((rd_T36 ((rd_T39 l0 x13_1).f3) x14_2).f1).toList = a2.toList
              ·rw [if_pos c18] at H
               have c18b0 : (((rd_T36 ((rd_T39 l0 x13_1).f3) x14_2).f1).toList == a2.toList) = true := beq_iff_eq.mpr c18
               have c18b1 : (((rd_T36 ((rd_T39 l0 x13_1).f3) x14_2).f1).toList != a2.toList) = false := bne_eq_false_iff_eq.mpr c18
               clear c18
               by_cases c19 : x12_2.length < 17592186044416
               ·rw [if_pos c19] at H
                have LMc19 := a_ c19
                clear c19
                obtain ⟨y344, hy344⟩ : ∃ y_ : List Int, y_ = (x12_2 ++ [(rd_T36 ((rd_T39 l0 x13_1).f3) x14_2).f2]) := ⟨_, rfl⟩
                replace H : (cambistref12_Sum.l1 kj6 l0 a1 a2 a3 a4 y344 x13_1 (wrap64 (x14_2 + 1))) = some (r1, r2) := by first | (rw [hy344]; with_reducible exact H) | (have H2_ := (Option.bind_some _ _).symm.trans H; rw [hy344]; with_reducible exact H2_) | (have H2_ := (Option.bind_some _ _).symm.trans H; with_reducible exact H2_) | with_reducible exact H | (rw [hy344]; exact H) | exact H
                have Ny344 := a_ hy344
                clear hy344
                have H' := a_ H
                clear H
                have p341 : 0 ≤ (x13_1 : Int) := of_decide_eq_true z70_
                have q341 : x13_1 < (l0.length : Int) := of_decide_eq_true z70_
                obtain ⟨ad341, A341_3, c341_3, e341, hx341_0, hx341_1, hx341_2, hx341_3, hl341_3, hi341_3⟩ := at_T39 HR0.out x13_1 p341 q341
                cases e341
                replace hx341_0 := (HB.out.cell (World.block_lt_of_cell? w _ hx341_0)).trans hx341_0
                replace hx341_1 := (HB.out.cell (World.block_lt_of_cell? w _ hx341_1)).trans hx341_1
                replace hx341_2 := (HB.out.cell (World.block_lt_of_cell? w _ hx341_2)).trans hx341_2
                replace hx341_3 := (HB.out.cell (World.block_lt_of_cell? w _ hx341_3)).trans hx341_3
                have HR341_3 := a_ hi341_3
                have HC341_3 := a_ hl341_3
                clear hi341_3 hl341_3
                replace p341 := eq_true p341
                replace q341 := eq_true q341
                have p342 : 0 ≤ (x14_2 : Int) := of_decide_eq_true z70_
                have q342 : x14_2 < (((rd_T39 l0 x13_1).f3).length : Int) := of_decide_eq_true z70_
                obtain ⟨ad342, e342, hx342_0, hx342_1, hx342_2⟩ := at_T36 HR341_3.out x14_2 p342 q342
                cases e342
                replace hx342_0 := (HB.out.cell (World.block_lt_of_cell? w _ hx342_0)).trans hx342_0
                replace hx342_1 := (HB.out.cell (World.block_lt_of_cell? w _ hx342_1)).trans hx342_1
                replace hx342_2 := (HB.out.cell (World.block_lt_of_cell? w _ hx342_2)).trans hx342_2
                replace p342 := eq_true p342
                replace q342 := eq_true q342
                go_wp2_with (first | ((with_reducible refine gate_dst (N := 15) rfl ?_); refine box_event ?hg (N := 15) ?hd (cs := #[.string (⟨#[]⟩ : ByteArray), .string (⟨#[]⟩ : ByteArray), .int .i64 0]) (t := 36) ?hr ?_; (case hd => rfl); (case hg => rfl); (case hr => first | (go_simp; done) | (go_simp; rfl)); intro gb343 hg w20 hbox hb; have n0_ := a_ (Kd.R_below z40_ hb); have n1_ := a_ (below_step z33_ hb); have n2_ := a_ (hbox); have n3_ := a_ ((z20_ : w.heap.size ≤ gb343)); have n4_ := a_ ((z20_ : w.heap.size ≤ gb343)); clear HO_12; clear HB; have HO_12 := n0_; have HB := n1_; have BK343 := n2_; have GW343 := n3_; have GE343 := n4_; clear n0_ n1_ n2_ n3_ n4_; clear hb hbox hg; have hcz21_0 : w20.cell? ⟨gb343, 0, none⟩ = some (.string (⟨#[]⟩ : ByteArray)) := (blk_cell BK343.out 0).trans rfl; have hcz21_1 : w20.cell? ⟨gb343, 1, none⟩ = some (.string (⟨#[]⟩ : ByteArray)) := (blk_cell BK343.out 1).trans rfl; have hcz21_2 : w20.cell? ⟨gb343, 2, none⟩ = some (.int .i64 0) := (blk_cell BK343.out 2).trans rfl; have hfz21_0 := blk_frozen BK343.out 0; have hfz21_1 := blk_frozen BK343.out 1; have hfz21_2 := blk_frozen BK343.out 2) | ((with_reducible refine gate_builtin (b := .append) (xs := #[.tmp 68, .tmp 71]) rfl ?_); at_builtin; refine Kd.R_append (Kd.int .i64) (w0 := w) w.heap.size rfl (.tmp 68) (.tmp 71) 48 2 (.int .i64 0) 8 rfl Tryz.underlying48 info2 rfl (by decide) (by omega) u12 x12_2 ((rd_T36 ((rd_T39 l0 x13_1).f3) x14_2).f2) [.int .i64 ((rd_T36 ((rd_T39 l0 x13_1).f3) x14_2).f2)] (fun _ => True) (fun _ => False) rfl (by first | (go_simp; done) | (go_simp; rfl)) ?aP (fun _ hk => hk.elim) ?aF ?aO ?aB ?aS ?aL ?_; (case aP => exact rfl); (case aB => exact z29_); (case aF => exact (fun _ _ => trivial)); (case aO => exact z2_); (case aS => exact (below_size z29_)); (case aL => have := LMc19.out; omega); intro v345 w22 ho hb hg hat; rw [← Ny344.out] at ho; have n0_ := a_ (blk_grown (g := gb343) (o := .cells #[.string ((rd_T36 ((rd_T39 l0 x13_1).f3) x14_2).f0), .string ((rd_T36 ((rd_T39 l0 x13_1).f3) x14_2).f1), .int .i64 ((rd_T36 ((rd_T39 l0 x13_1).f3) x14_2).f2)] 36 (0, 0)) (by (with_reducible repeat (first | refine kN_ ?_ _ | refine kD_ ?_ | refine kA_ ?_ _)); refine blk_put (cs := #[.string ((rd_T36 ((rd_T39 l0 x13_1).f3) x14_2).f0), .string ((rd_T36 ((rd_T39 l0 x13_1).f3) x14_2).f1), .int .i64 0]) ?_ 2 _ rfl; (with_reducible repeat (first | refine kN_ ?_ _ | refine kD_ ?_ | refine kA_ ?_ _)); refine blk_put (cs := #[.string ((rd_T36 ((rd_T39 l0 x13_1).f3) x14_2).f0), .string (⟨#[]⟩ : ByteArray), .int .i64 0]) ?_ 1 _ rfl; (with_reducible repeat (first | refine kN_ ?_ _ | refine kD_ ?_ | refine kA_ ?_ _)); refine blk_put (cs := #[.string (⟨#[]⟩ : ByteArray), .string (⟨#[]⟩ : ByteArray), .int .i64 0]) ?_ 0 _ rfl; (with_reducible repeat (first | refine kN_ ?_ _ | refine kD_ ?_ | refine kA_ ?_ _)); exact BK343.out) hg (Kd.R_ne HO_12.out BK343.out (by decide))); have n1_ := a_ (hb); have n2_ := a_ (ho); clear BK343; clear HB; clear HO_12; have BK343 := n0_; have HB := n1_; have HO346 := n2_; clear n0_ n1_ n2_; clear ho hb hg hat))
                go_roundg kj6
                case measure => have := HK1.out; have := HK2.out; have := HJ6.out; omega
                case rel => exact ⟨(y344), (wrap64 (x14_2 + 1)), z71_, H', ⟨z68_⟩, ⟨by (with_reducible repeat (first | apply Kd.R_alloc | apply Kd.R_drewN | apply Kd.R_drew)); exact HO346.out⟩, ⟨z29_⟩⟩
               ·rw [if_neg c19] at H
                exact absurd H (by simp)
              ·rw [if_neg c18] at H
               have c18b0 : (((rd_T36 ((rd_T39 l0 x13_1).f3) x14_2).f1).toList == a2.toList) = false := beq_eq_false_iff_ne.mpr c18
               have c18b1 : (((rd_T36 ((rd_T39 l0 x13_1).f3) x14_2).f1).toList != a2.toList) = true := bne_iff_ne.mpr c18
               have H' := a_ H
               clear H
               have p341 : 0 ≤ (x13_1 : Int) := of_decide_eq_true z70_
               have q341 : x13_1 < (l0.length : Int) := of_decide_eq_true z70_
               obtain ⟨ad341, A341_3, c341_3, e341, hx341_0, hx341_1, hx341_2, hx341_3, hl341_3, hi341_3⟩ := at_T39 HR0.out x13_1 p341 q341
               cases e341
               replace hx341_0 := (HB.out.cell (World.block_lt_of_cell? w _ hx341_0)).trans hx341_0
               replace hx341_1 := (HB.out.cell (World.block_lt_of_cell? w _ hx341_1)).trans hx341_1
               replace hx341_2 := (HB.out.cell (World.block_lt_of_cell? w _ hx341_2)).trans hx341_2
               replace hx341_3 := (HB.out.cell (World.block_lt_of_cell? w _ hx341_3)).trans hx341_3
               have HR341_3 := a_ hi341_3
               have HC341_3 := a_ hl341_3
               clear hi341_3 hl341_3
               replace p341 := eq_true p341
               replace q341 := eq_true q341
               have p342 : 0 ≤ (x14_2 : Int) := of_decide_eq_true z70_
               have q342 : x14_2 < (((rd_T39 l0 x13_1).f3).length : Int) := of_decide_eq_true z70_
               obtain ⟨ad342, e342, hx342_0, hx342_1, hx342_2⟩ := at_T36 HR341_3.out x14_2 p342 q342
               cases e342
               replace hx342_0 := (HB.out.cell (World.block_lt_of_cell? w _ hx342_0)).trans hx342_0
               replace hx342_1 := (HB.out.cell (World.block_lt_of_cell? w _ hx342_1)).trans hx342_1
               replace hx342_2 := (HB.out.cell (World.block_lt_of_cell? w _ hx342_2)).trans hx342_2
               replace p342 := eq_true p342
               replace q342 := eq_true q342
               go_wp2_with (first | ((with_reducible refine gate_dst (N := 15) rfl ?_); refine box_event ?hg (N := 15) ?hd (cs := #[.string (⟨#[]⟩ : ByteArray), .string (⟨#[]⟩ : ByteArray), .int .i64 0]) (t := 36) ?hr ?_; (case hd => rfl); (case hg => rfl); (case hr => first | (go_simp; done) | (go_simp; rfl)); intro gb343 hg w23 hbox hb; have n0_ := a_ (Kd.R_below z40_ hb); have n1_ := a_ (below_step z33_ hb); have n2_ := a_ (hbox); have n3_ := a_ ((z20_ : w.heap.size ≤ gb343)); have n4_ := a_ ((z20_ : w.heap.size ≤ gb343)); clear HO_12; clear HB; have HO_12 := n0_; have HB := n1_; have BK343 := n2_; have GW343 := n3_; have GE343 := n4_; clear n0_ n1_ n2_ n3_ n4_; clear hb hbox hg; have hcz24_0 : w23.cell? ⟨gb343, 0, none⟩ = some (.string (⟨#[]⟩ : ByteArray)) := (blk_cell BK343.out 0).trans rfl; have hcz24_1 : w23.cell? ⟨gb343, 1, none⟩ = some (.string (⟨#[]⟩ : ByteArray)) := (blk_cell BK343.out 1).trans rfl; have hcz24_2 : w23.cell? ⟨gb343, 2, none⟩ = some (.int .i64 0) := (blk_cell BK343.out 2).trans rfl; have hfz24_0 := blk_frozen BK343.out 0; have hfz24_1 := blk_frozen BK343.out 1; have hfz24_2 := blk_frozen BK343.out 2))
               go_roundg kj6
               case measure => have := HK1.out; have := HK2.out; have := HJ6.out; omega
               case rel => exact ⟨(x12_2), (wrap64 (x14_2 + 1)), z71_, H', ⟨z68_⟩, ⟨z2_⟩, ⟨z29_⟩⟩
             ·rw [if_neg c17] at H
              have c17b0 : (((rd_T36 ((rd_T39 l0 x13_1).f3) x14_2).f0).toList == a1.toList) = false := beq_eq_false_iff_ne.mpr c17
              have c17b1 : (((rd_T36 ((rd_T39 l0 x13_1).f3) x14_2).f0).toList != a1.toList) = true := bne_iff_ne.mpr c17
              have H' := a_ H
              clear H
              have p341 : 0 ≤ (x13_1 : Int) := of_decide_eq_true z70_
              have q341 : x13_1 < (l0.length : Int) := of_decide_eq_true z70_
              obtain ⟨ad341, A341_3, c341_3, e341, hx341_0, hx341_1, hx341_2, hx341_3, hl341_3, hi341_3⟩ := at_T39 HR0.out x13_1 p341 q341
              cases e341
              replace hx341_0 := (HB.out.cell (World.block_lt_of_cell? w _ hx341_0)).trans hx341_0
              replace hx341_1 := (HB.out.cell (World.block_lt_of_cell? w _ hx341_1)).trans hx341_1
              replace hx341_2 := (HB.out.cell (World.block_lt_of_cell? w _ hx341_2)).trans hx341_2
              replace hx341_3 := (HB.out.cell (World.block_lt_of_cell? w _ hx341_3)).trans hx341_3
              have HR341_3 := a_ hi341_3
              have HC341_3 := a_ hl341_3
              clear hi341_3 hl341_3
              replace p341 := eq_true p341
              replace q341 := eq_true q341
              have p342 : 0 ≤ (x14_2 : Int) := of_decide_eq_true z70_
              have q342 : x14_2 < (((rd_T39 l0 x13_1).f3).length : Int) := of_decide_eq_true z70_
              obtain ⟨ad342, e342, hx342_0, hx342_1, hx342_2⟩ := at_T36 HR341_3.out x14_2 p342 q342
              cases e342
              replace hx342_0 := (HB.out.cell (World.block_lt_of_cell? w _ hx342_0)).trans hx342_0
              replace hx342_1 := (HB.out.cell (World.block_lt_of_cell? w _ hx342_1)).trans hx342_1
              replace hx342_2 := (HB.out.cell (World.block_lt_of_cell? w _ hx342_2)).trans hx342_2
              replace p342 := eq_true p342
              replace q342 := eq_true q342
              go_wp2_with (first | ((with_reducible refine gate_dst (N := 15) rfl ?_); refine box_event ?hg (N := 15) ?hd (cs := #[.string (⟨#[]⟩ : ByteArray), .string (⟨#[]⟩ : ByteArray), .int .i64 0]) (t := 36) ?hr ?_; (case hd => rfl); (case hg => rfl); (case hr => first | (go_simp; done) | (go_simp; rfl)); intro gb343 hg w25 hbox hb; have n0_ := a_ (Kd.R_below z40_ hb); have n1_ := a_ (below_step z33_ hb); have n2_ := a_ (hbox); have n3_ := a_ ((z20_ : w.heap.size ≤ gb343)); have n4_ := a_ ((z20_ : w.heap.size ≤ gb343)); clear HO_12; clear HB; have HO_12 := n0_; have HB := n1_; have BK343 := n2_; have GW343 := n3_; have GE343 := n4_; clear n0_ n1_ n2_ n3_ n4_; clear hb hbox hg; have hcz26_0 : w25.cell? ⟨gb343, 0, none⟩ = some (.string (⟨#[]⟩ : ByteArray)) := (blk_cell BK343.out 0).trans rfl; have hcz26_1 : w25.cell? ⟨gb343, 1, none⟩ = some (.string (⟨#[]⟩ : ByteArray)) := (blk_cell BK343.out 1).trans rfl; have hcz26_2 : w25.cell? ⟨gb343, 2, none⟩ = some (.int .i64 0) := (blk_cell BK343.out 2).trans rfl; have hfz26_0 := blk_frozen BK343.out 0; have hfz26_1 := blk_frozen BK343.out 1; have hfz26_2 := blk_frozen BK343.out 2))
              go_roundg kj6
              case measure => have := HK1.out; have := HK2.out; have := HJ6.out; omega
              case rel => exact ⟨(x12_2), (wrap64 (x14_2 + 1)), z71_, H', ⟨z68_⟩, ⟨z2_⟩, ⟨z29_⟩⟩
            ·rw [if_neg c16] at H
             exact absurd H (by simp)
           ·rw [if_neg c15] at H
            exact absurd H (by simp)
          ·rw [if_neg c14] at H
           exact absurd H (by simp)
         ·rw [if_neg c13] at H
          exact absurd H (by simp)
        ·replace c12 := Bool.eq_false_iff.mpr c12
         subst c12
         have H1 : (cambistref12_Sum.l0 kj6 l0 a1 a2 a3 a4 x12_2 (wrap64 (x13_1 + 1))) = some (r1, r2) := by rw [if_neg (show ¬ (false = true) by decide)] at H; exact H
         clear H
         have H := H1
         clear H1
         have H' := a_ H
         clear H
         go_wp2
         go_roundg kj6
         case measure => have := HK1.out; have := HK2.out; have := HJ6.out; omega
         case rel => exact ⟨(x12_2), (wrap64 (x13_1 + 1)), z71_, H', ⟨z68_⟩, ⟨z40_⟩, ⟨z33_⟩⟩
   ·rw [if_neg c6] at H
    have c6b0 : decide (x13_1 < (l0.length : Int)) = false := decide_eq_false c6
    clear c6
    replace H := Option.bind_eq_some_iff.mp H
    obtain ⟨⟨t336, t337⟩, A270, H⟩ := H
    replace H : (some (t336, t337)) = some (r1, r2) := H
    have A27 := a_ A270
    clear A270
    simp only [Option.some.injEq, Prod.mk.injEq] at H
    obtain ⟨rfl, rfl⟩ := H
    obtain ⟨Ao28, co28, eo28⟩ := Kd.R_slice HO_12.out
    subst eo28
    go_wp2_with (first | ((with_reducible refine gate_callee (f := 20) rfl ?_); refine goesL_ (some 74) rfl rfl Tryz.func20 z74_ rfl #[.slice Ao28 x12_1.length co28] rfl z19_ ?_; (with_reducible refine (cambistref01_Sum.calls k1 _ _ x12_1 t336 t337 _ ?side1 ?side2 ?side3 A27.out).mono ?_); (case side1 => exact Glob.below HG.out z33_); (case side2 => repeat (first | exact (Kd.R_reads' HO_12.out).2.2 | (with_reducible refine Kd.C_alloc ?_ _) | (with_reducible refine Kd.C_drewN ?_ _) | (with_reducible refine Kd.C_drew ?_))); (case side3 => exact (Kd.R_reads' HO_12.out).2.1); rintro e w29 ⟨rfl, hb⟩; refine ⟨_, rfl, ?_⟩; have n0_ := a_ (Kd.R_below z40_ hb); have n1_ := a_ (below_step z33_ hb); clear HO_12; clear HB; have HO_12 := n0_; have HB := n1_; clear n0_ n1_; (try clear hb); (try clear hb2); (try clear hk); (try clear hi)))
    go_ret2
    exact ⟨z64_, z33_⟩

end Go.Proofs.YtjlifcbddednaaaGreatDoor.P
