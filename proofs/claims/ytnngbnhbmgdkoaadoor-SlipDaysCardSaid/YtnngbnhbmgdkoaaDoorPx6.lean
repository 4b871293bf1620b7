-- Laid by wip/tools/cprint.py of this claim's own repo (over the kit's print).
import Derived.Test.YtnngbnhbmgdkoaaDoorSq
import Derived.Test.YtnngbnhbmgdkoaaDoorPx0
import Derived.Test.YtnngbnhbmgdkoaaDoorPx5
namespace Go.Proofs.YtnngbnhbmgdkoaaDoor.P
open Go.RowKit Go.Proofs.YtnngbnhbmgdkoaaDoor.E Go.Proofs.YtnngbnhbmgdkoaaDoorW.PrintWords Go.Proofs.YtnngbnhbmgdkoaaDoorW.PrintLast
set_option linter.unusedVariables false
set_option linter.unusedSimpArgs false

/-! ### cambistref12_Sum: function 20 -/
mutual
def cambistref12_Sum.l0 : Nat → List (S45) → ByteArray → ByteArray → Int → Int → List Int → Int → Option (Int × Int)
 | 0, _, _, _, _, _, _, _ => none
 | k + 1, x0, x1, x2, x3, x4, x12, x13 => if x13 < (x0.length : Int) then (cambistref12_Sum.l1 k x0 x1 x2 x3 x4 x12 x13 0) else ((cambistref01_Sum.f k x12).bind fun bt176 => (some (bt176.1, bt176.2)))
def cambistref12_Sum.l1 : Nat → List (S45) → ByteArray → ByteArray → Int → Int → List Int → Int → Int → Option (Int × Int)
 | 0, _, _, _, _, _, _, _, _ => none
 | k + 1, x0, x1, x2, x3, x4, x12, x13, x14 => if 0 ≤ x13 then (if x13 < (x0.length : Int) then (if x14 < (((rd_T45 x0 x13).f3).length : Int) then (if ((rd_T45 x0 x13).f1) ≥ x3 then (cambistref12_Sum.j2 k x0 x1 x2 x3 x4 x12 x13 x14 (decide (((rd_T45 x0 x13).f1) < x4))) else (cambistref12_Sum.j2 k x0 x1 x2 x3 x4 x12 x13 x14 false)) else (cambistref12_Sum.j2 k x0 x1 x2 x3 x4 x12 x13 x14 false)) else (none)) else (none)
def cambistref12_Sum.j2 : Nat → List (S45) → ByteArray → ByteArray → Int → Int → List Int → Int → Int → Bool → Option (Int × Int)
 | 0, _, _, _, _, _, _, _, _, _ => none
 | k + 1, x0, x1, x2, x3, x4, x12, x13, x14, x47 => if x47 = true then (if 0 ≤ x13 then (if x13 < (x0.length : Int) then (if 0 ≤ x14 then (if x14 < (((rd_T45 x0 x13).f3).length : Int) then (if ((rd_T47 ((rd_T45 x0 x13).f3) x14).f0).toList = x1.toList then (if ((rd_T47 ((rd_T45 x0 x13).f3) x14).f1).toList = x2.toList then (if x12.length < 17592186044416 then (cambistref12_Sum.l1 k x0 x1 x2 x3 x4 (x12 ++ [(rd_T47 ((rd_T45 x0 x13).f3) x14).f2]) x13 (wrap64 (x14 + 1))) else (none)) else (cambistref12_Sum.l1 k x0 x1 x2 x3 x4 x12 x13 (wrap64 (x14 + 1)))) else (cambistref12_Sum.l1 k x0 x1 x2 x3 x4 x12 x13 (wrap64 (x14 + 1)))) else (none)) else (none)) else (none)) else (none)) else (cambistref12_Sum.l0 k x0 x1 x2 x3 x4 x12 (wrap64 (x13 + 1)))
end
def cambistref12_Sum.f (k : Nat) (l0 : List (S45)) (a1 : ByteArray) (a2 : ByteArray) (a3 : Int) (a4 : Int) : Option (Int × Int) := cambistref12_Sum.l0 k l0 a1 a2 a3 a4 ([] : List Int) 0
theorem cambistref12_Sum.mono_l : ∀ k, (∀ y0 y1 y2 y3 y4 y5 y6, LeO (cambistref12_Sum.l0 k y0 y1 y2 y3 y4 y5 y6) (cambistref12_Sum.l0 (k + 1) y0 y1 y2 y3 y4 y5 y6)) ∧ (∀ y0 y1 y2 y3 y4 y5 y6 y7, LeO (cambistref12_Sum.l1 k y0 y1 y2 y3 y4 y5 y6 y7) (cambistref12_Sum.l1 (k + 1) y0 y1 y2 y3 y4 y5 y6 y7)) ∧ (∀ y0 y1 y2 y3 y4 y5 y6 y7 y8, LeO (cambistref12_Sum.j2 k y0 y1 y2 y3 y4 y5 y6 y7 y8) (cambistref12_Sum.j2 (k + 1) y0 y1 y2 y3 y4 y5 y6 y7 y8))
 | 0 => ⟨fun _ _ _ _ _ _ _ r h => by simp [cambistref12_Sum.l0] at h, fun _ _ _ _ _ _ _ _ r h => by simp [cambistref12_Sum.l1] at h, fun _ _ _ _ _ _ _ _ _ r h => by simp [cambistref12_Sum.j2] at h⟩
 | k + 1 => by
  obtain ⟨ih0, ih1, ih2⟩ := cambistref12_Sum.mono_l k
  refine ⟨?_, ?_, ?_⟩
  ·intro y0 y1 y2 y3 y4 y5 y6
   unfold cambistref12_Sum.l0
   repeat' first
   | (with_reducible exact ih0 _ _ _ _ _ _ _)
   | (with_reducible exact ih1 _ _ _ _ _ _ _ _)
   | (with_reducible exact ih2 _ _ _ _ _ _ _ _ _)
   | (with_reducible exact cambistref01_Sum.mono _ _)
   | (with_reducible first | exact LeO.refl _ | exact LeO.none _ | refine LeO.ite ?_ ?_ | refine LeO.bind ?_ fun _ => ?_)
   | exact ih0 _ _ _ _ _ _ _
   | exact ih1 _ _ _ _ _ _ _ _
   | exact ih2 _ _ _ _ _ _ _ _ _
   | exact cambistref01_Sum.mono _ _
  ·intro y0 y1 y2 y3 y4 y5 y6 y7
   unfold cambistref12_Sum.l1
   repeat' first
   | (with_reducible exact ih0 _ _ _ _ _ _ _)
   | (with_reducible exact ih1 _ _ _ _ _ _ _ _)
   | (with_reducible exact ih2 _ _ _ _ _ _ _ _ _)
   | (with_reducible exact cambistref01_Sum.mono _ _)
   | (with_reducible first | exact LeO.refl _ | exact LeO.none _ | refine LeO.ite ?_ ?_ | refine LeO.bind ?_ fun _ => ?_)
   | exact ih0 _ _ _ _ _ _ _
   | exact ih1 _ _ _ _ _ _ _ _
   | exact ih2 _ _ _ _ _ _ _ _ _
   | exact cambistref01_Sum.mono _ _
  ·intro y0 y1 y2 y3 y4 y5 y6 y7 y8
   unfold cambistref12_Sum.j2
   repeat' first
   | (with_reducible exact ih0 _ _ _ _ _ _ _)
   | (with_reducible exact ih1 _ _ _ _ _ _ _ _)
   | (with_reducible exact ih2 _ _ _ _ _ _ _ _ _)
   | (with_reducible exact cambistref01_Sum.mono _ _)
   | (with_reducible first | exact LeO.refl _ | exact LeO.none _ | refine LeO.ite ?_ ?_ | refine LeO.bind ?_ fun _ => ?_)
   | exact ih0 _ _ _ _ _ _ _
   | exact ih1 _ _ _ _ _ _ _ _
   | exact ih2 _ _ _ _ _ _ _ _ _
   | exact cambistref01_Sum.mono _ _
theorem cambistref12_Sum.mono : ∀ a0 a1 a2 a3 a4 k, LeO (cambistref12_Sum.f k a0 a1 a2 a3 a4) (cambistref12_Sum.f (k + 1) a0 a1 a2 a3 a4) := by
 intro a0 a1 a2 a3 a4 k
 obtain ⟨ih0, ih1, ih2⟩ := cambistref12_Sum.mono_l k
 unfold cambistref12_Sum.f
 repeat' first
   | (with_reducible exact ih0 _ _ _ _ _ _ _)
   | (with_reducible exact ih1 _ _ _ _ _ _ _ _)
   | (with_reducible exact ih2 _ _ _ _ _ _ _ _ _)
   | (with_reducible exact cambistref01_Sum.mono _ _)
   | (with_reducible first | exact LeO.refl _ | exact LeO.none _ | refine LeO.ite ?_ ?_ | refine LeO.bind ?_ fun _ => ?_)
   | exact ih0 _ _ _ _ _ _ _
   | exact ih1 _ _ _ _ _ _ _ _
   | exact ih2 _ _ _ _ _ _ _ _ _
   | exact cambistref01_Sum.mono _ _
set_option maxHeartbeats 8000000 in
set_option maxRecDepth 100000 in
theorem cambistref12_Sum.calls (k : Nat) (A0 : Option Addr) (c0 : Nat) (l0 : List (S45)) (a1 : ByteArray) (a2 : ByteArray) (a3 : Int) (a4 : Int) (r1 : Int) (r2 : Int) (w : World) (hG : Glob w) (hr0 : Kd.C k45 w A0 l0.length l0) (hc0 : l0.length ≤ c0) (h : cambistref12_Sum.f k l0 a1 a2 a3 a4 = some (r1, r2)) :
  Calls Tryd.prog 20 #[.slice A0 l0.length c0, .string a1, .string a2, .int .u64 a3, .int .u64 a4] w fun e w' => e = .returned (.tuple #[.int .i64 r1, .int .i64 r2]) ∧ Below w.heap.size w w' := by
 have hu47 := Tryd.underlying47
 have HG := a_ hG
 clear hG
 have HR0 := a_ hr0
 have HC0 := a_ hc0
 clear hr0 hc0
 have HB := a_ (Below.refl w.heap.size w)
 have H : (cambistref12_Sum.l0 k l0 a1 a2 a3 a4 ([] : List Int) 0) = some (r1, r2) := h
 clear h
 have H' := a_ H
 clear H
 go_enter Tryd.func20, Tryd.ntmps20
 go_wp2
 go_loopg [12, 13] k (fun kq v12 v13 w' => ∃ (x12_1 : List Int) (x13_1 : Int), v13 = .int .i64 x13_1 ∧ Aside0 (cambistref12_Sum.l0 kq l0 a1 a2 a3 a4 x12_1 x13_1 = some (r1, r2)) ∧ Aside0 (kq ≤ k) ∧ Aside0 (Kd.R (Kd.int .i64) 2 w' w.heap.size (fun _ => True) v12 x12_1) ∧ Aside0 (Below w.heap.size w w'))
 case atStart => exact ⟨(([] : List Int)), (0), z68_, H', ⟨Nat.le_refl _⟩, ⟨z25_⟩, ⟨z41_⟩⟩
 case round =>
  clear H'
  try clear c2
  try clear p2
  obtain ⟨x12_1, x13_1, rfl, HA, HK1, HO_12, HB⟩ := hrel
  cases gk with
  | zero => exact absurd HA.out (by simp [cambistref12_Sum.l0])
  | succ k1 =>
   have H := HA.out
   clear HA
   simp only [cambistref12_Sum.l0] at H
   by_cases c6 : x13_1 < (l0.length : Int)
   ·rw [if_pos c6] at H
    have c6b0 : decide (x13_1 < (l0.length : Int)) = true := decide_eq_true c6
    clear c6
    have H' := a_ H
    clear H
    go_wp2
    go_loopg [12, 14] k1 (fun kq v12 v14 w' => ∃ (x12_2 : List Int) (x14_2 : Int), v14 = .int .i64 x14_2 ∧ Aside0 (cambistref12_Sum.l1 kq l0 a1 a2 a3 a4 x12_2 x13_1 x14_2 = some (r1, r2)) ∧ Aside0 (kq ≤ k1) ∧ Aside0 (Kd.R (Kd.int .i64) 2 w' w.heap.size (fun _ => True) v12 x12_2) ∧ Aside0 (Below w.heap.size w w'))
    case atStart => exact ⟨(x12_1), (0), z68_, H', ⟨Nat.le_refl _⟩, ⟨z44_⟩, ⟨z41_⟩⟩
    case round =>
     clear H'
     try clear c2
     try clear p2
     try clear c6
     try clear c6b0
     try clear p2
     obtain ⟨x12_2, x14_2, rfl, HA, HK2, HO_12, HB⟩ := hrel
     cases gk with
     | zero => exact absurd HA.out (by simp [cambistref12_Sum.l1])
     | succ k2 =>
      have H := HA.out
      clear HA
      simp only [cambistref12_Sum.l1] at H
      have HC7 := a_ H
      clear H
      go_upto_region 6 with (fail)
      go_cut [47] (fun v47 wc => ∃ (kq : Nat) (x47_6 : Bool), v47 = .bool x47_6 ∧ Aside0 (cambistref12_Sum.j2 kq l0 a1 a2 a3 a4 x12_2 x13_1 x14_2 x47_6 = some (r1, r2)) ∧ Aside0 (kq ≤ k2) ∧ Aside0 (Kd.R (Kd.int .i64) 2 wc w.heap.size (fun _ => True) u12 x12_2) ∧ Aside0 (Below w.heap.size w wc))
      case first =>
       have H := HC7.out
       clear HC7
       by_cases c8 : 0 ≤ x13_1
       ·rw [if_pos c8] at H
        have c8b0 : decide (0 ≤ x13_1) = true := decide_eq_true c8
        clear c8
        (first | rw [c8b0] | (simp only [i64_w, i32_w]; rw [c8b0]) | skip)
        by_cases c9 : x13_1 < (l0.length : Int)
        ·rw [if_pos c9] at H
         have c9b0 : decide (x13_1 < (l0.length : Int)) = true := decide_eq_true c9
         clear c9
         by_cases c10 : x14_2 < (((rd_T45 l0 x13_1).f3).length : Int)
         ·rw [if_pos c10] at H
          have c10b0 : decide (x14_2 < (((rd_T45 l0 x13_1).f3).length : Int)) = true := decide_eq_true c10
          clear c10
          by_cases c11 : ((rd_T45 l0 x13_1).f1) ≥ a3
          ·rw [if_pos c11] at H
           have c11b0 : decide (a3 ≤ ((rd_T45 l0 x13_1).f1)) = true := decide_eq_true c11
           clear c11
           have H' := a_ H
           clear H
           have p178 : 0 ≤ (x13_1 : Int) := of_decide_eq_true z67_
           have q178 : x13_1 < (l0.length : Int) := of_decide_eq_true z67_
           obtain ⟨ad178, A178_3, c178_3, e178, hx178_0, hx178_1, hx178_2, hx178_3, hl178_3, hi178_3⟩ := at_T45 HR0.out x13_1 p178 q178
           cases e178
           replace hx178_0 := (HB.out.cell (World.block_lt_of_cell? w _ hx178_0)).trans hx178_0
           replace hx178_1 := (HB.out.cell (World.block_lt_of_cell? w _ hx178_1)).trans hx178_1
           replace hx178_2 := (HB.out.cell (World.block_lt_of_cell? w _ hx178_2)).trans hx178_2
           replace hx178_3 := (HB.out.cell (World.block_lt_of_cell? w _ hx178_3)).trans hx178_3
           have HR178_3 := a_ hi178_3
           have HC178_3 := a_ hl178_3
           clear hi178_3 hl178_3
           replace p178 := eq_true p178
           replace q178 := eq_true q178
           have p179 : 0 ≤ (x13_1 : Int) := of_decide_eq_true z67_
           have q179 : x13_1 < (l0.length : Int) := of_decide_eq_true z67_
           obtain ⟨ad179, A179_3, c179_3, e179, hx179_0, hx179_1, hx179_2, hx179_3, hl179_3, hi179_3⟩ := at_T45 HR0.out x13_1 p179 q179
           obtain rfl : ad178 = ad179 := (by injection e179)
           replace hx179_0 := (HB.out.cell (World.block_lt_of_cell? w _ hx179_0)).trans hx179_0
           replace hx179_1 := (HB.out.cell (World.block_lt_of_cell? w _ hx179_1)).trans hx179_1
           replace hx179_2 := (HB.out.cell (World.block_lt_of_cell? w _ hx179_2)).trans hx179_2
           replace hx179_3 := (HB.out.cell (World.block_lt_of_cell? w _ hx179_3)).trans hx179_3
           have HR179_3 := a_ hi179_3
           have HC179_3 := a_ hl179_3
           clear hi179_3 hl179_3
           replace p179 := eq_true p179
           replace q179 := eq_true q179
           have ea_ := Option.some.inj (hx178_3.symm.trans hx179_3)
           injection ea_ with ea_ en_ ec_
           subst ea_
           subst ec_
           clear en_
           have p180 : 0 ≤ (x13_1 : Int) := of_decide_eq_true z67_
           have q180 : x13_1 < (l0.length : Int) := of_decide_eq_true z67_
           obtain ⟨ad180, A180_3, c180_3, e180, hx180_0, hx180_1, hx180_2, hx180_3, hl180_3, hi180_3⟩ := at_T45 HR0.out x13_1 p180 q180
           obtain rfl : ad178 = ad180 := (by injection e180)
           replace hx180_0 := (HB.out.cell (World.block_lt_of_cell? w _ hx180_0)).trans hx180_0
           replace hx180_1 := (HB.out.cell (World.block_lt_of_cell? w _ hx180_1)).trans hx180_1
           replace hx180_2 := (HB.out.cell (World.block_lt_of_cell? w _ hx180_2)).trans hx180_2
           replace hx180_3 := (HB.out.cell (World.block_lt_of_cell? w _ hx180_3)).trans hx180_3
           have HR180_3 := a_ hi180_3
           have HC180_3 := a_ hl180_3
           clear hi180_3 hl180_3
           replace p180 := eq_true p180
           replace q180 := eq_true q180
           have ea_ := Option.some.inj (hx178_3.symm.trans hx180_3)
           injection ea_ with ea_ en_ ec_
           subst ea_
           subst ec_
           clear en_
           go_wp2
           go_meet
           case rel => exact ⟨_, (decide (((rd_T45 l0 x13_1).f1) < a4)), z68_, H', ⟨z63_⟩, ⟨z44_⟩, ⟨z41_⟩⟩
          ·rw [if_neg c11] at H
           have c11b0 : decide (a3 ≤ ((rd_T45 l0 x13_1).f1)) = false := decide_eq_false c11
           clear c11
           have H' := a_ H
           clear H
           have p178 : 0 ≤ (x13_1 : Int) := of_decide_eq_true z67_
           have q178 : x13_1 < (l0.length : Int) := of_decide_eq_true z67_
           obtain ⟨ad178, A178_3, c178_3, e178, hx178_0, hx178_1, hx178_2, hx178_3, hl178_3, hi178_3⟩ := at_T45 HR0.out x13_1 p178 q178
           cases e178
           replace hx178_0 := (HB.out.cell (World.block_lt_of_cell? w _ hx178_0)).trans hx178_0
           replace hx178_1 := (HB.out.cell (World.block_lt_of_cell? w _ hx178_1)).trans hx178_1
           replace hx178_2 := (HB.out.cell (World.block_lt_of_cell? w _ hx178_2)).trans hx178_2
           replace hx178_3 := (HB.out.cell (World.block_lt_of_cell? w _ hx178_3)).trans hx178_3
           have HR178_3 := a_ hi178_3
           have HC178_3 := a_ hl178_3
           clear hi178_3 hl178_3
           replace p178 := eq_true p178
           replace q178 := eq_true q178
           have p179 : 0 ≤ (x13_1 : Int) := of_decide_eq_true z67_
           have q179 : x13_1 < (l0.length : Int) := of_decide_eq_true z67_
           obtain ⟨ad179, A179_3, c179_3, e179, hx179_0, hx179_1, hx179_2, hx179_3, hl179_3, hi179_3⟩ := at_T45 HR0.out x13_1 p179 q179
           obtain rfl : ad178 = ad179 := (by injection e179)
           replace hx179_0 := (HB.out.cell (World.block_lt_of_cell? w _ hx179_0)).trans hx179_0
           replace hx179_1 := (HB.out.cell (World.block_lt_of_cell? w _ hx179_1)).trans hx179_1
           replace hx179_2 := (HB.out.cell (World.block_lt_of_cell? w _ hx179_2)).trans hx179_2
           replace hx179_3 := (HB.out.cell (World.block_lt_of_cell? w _ hx179_3)).trans hx179_3
           have HR179_3 := a_ hi179_3
           have HC179_3 := a_ hl179_3
           clear hi179_3 hl179_3
           replace p179 := eq_true p179
           replace q179 := eq_true q179
           have ea_ := Option.some.inj (hx178_3.symm.trans hx179_3)
           injection ea_ with ea_ en_ ec_
           subst ea_
           subst ec_
           clear en_
           go_wp2
           go_meet
           case rel => exact ⟨_, (false), z68_, H', ⟨z63_⟩, ⟨z44_⟩, ⟨z41_⟩⟩
         ·rw [if_neg c10] at H
          have c10b0 : decide (x14_2 < (((rd_T45 l0 x13_1).f3).length : Int)) = false := decide_eq_false c10
          clear c10
          have H' := a_ H
          clear H
          have p178 : 0 ≤ (x13_1 : Int) := of_decide_eq_true z67_
          have q178 : x13_1 < (l0.length : Int) := of_decide_eq_true z67_
          obtain ⟨ad178, A178_3, c178_3, e178, hx178_0, hx178_1, hx178_2, hx178_3, hl178_3, hi178_3⟩ := at_T45 HR0.out x13_1 p178 q178
          cases e178
          replace hx178_0 := (HB.out.cell (World.block_lt_of_cell? w _ hx178_0)).trans hx178_0
          replace hx178_1 := (HB.out.cell (World.block_lt_of_cell? w _ hx178_1)).trans hx178_1
          replace hx178_2 := (HB.out.cell (World.block_lt_of_cell? w _ hx178_2)).trans hx178_2
          replace hx178_3 := (HB.out.cell (World.block_lt_of_cell? w _ hx178_3)).trans hx178_3
          have HR178_3 := a_ hi178_3
          have HC178_3 := a_ hl178_3
          clear hi178_3 hl178_3
          replace p178 := eq_true p178
          replace q178 := eq_true q178
          go_wp2
          go_meet
          case rel => exact ⟨_, (false), z68_, H', ⟨z63_⟩, ⟨z44_⟩, ⟨z41_⟩⟩
        ·rw [if_neg c9] at H
         exact absurd H (by simp)
       ·rw [if_neg c8] at H
        exact absurd H (by simp)
      case rest =>
       clear HC7
       try clear c1
       try clear p1
       try clear q1
       try clear hx1
       try clear c2
       try clear p2
       try clear c6
       try clear c6b0
       try clear c8
       try clear c8b0
       try clear c9
       try clear c9b0
       try clear c10
       try clear c10b0
       try clear c11
       try clear c11b0
       try clear hx178_0
       try clear hx178_1
       try clear hx178_2
       try clear hx178_3
       try clear hx179_0
       try clear hx179_1
       try clear hx179_2
       try clear hx179_3
       try clear hx180_0
       try clear hx180_1
       try clear hx180_2
       try clear hx180_3
       try clear p178
       try clear p179
       try clear p180
       try clear p2
       try clear q178
       try clear q179
       try clear q180
       obtain ⟨kq, x47_6, rfl, HA, HJ6, HO_12, HB⟩ := hcut
       cases kq with
       | zero => exact absurd HA.out (by simp [cambistref12_Sum.j2])
       | succ kj6 =>
        have H := HA.out
        clear HA
        simp only [cambistref12_Sum.j2] at H
        by_cases c12 : x47_6 = true
        ·subst c12
         have H1 : (if 0 ≤ x13_1 then (if x13_1 < (l0.length : Int) then (if 0 ≤ x14_2 then (if x14_2 < (((rd_T45 l0 x13_1).f3).length : Int) then (if ((rd_T47 ((rd_T45 l0 x13_1).f3) x14_2).f0).toList = a1.toList then (if ((rd_T47 ((rd_T45 l0 x13_1).f3) x14_2).f1).toList = a2.toList then (if x12_2.length < 17592186044416 then (cambistref12_Sum.l1 kj6 l0 a1 a2 a3 a4 (x12_2 ++ [(rd_T47 ((rd_T45 l0 x13_1).f3) x14_2).f2]) x13_1 (wrap64 (x14_2 + 1))) else (none)) else (cambistref12_Sum.l1 kj6 l0 a1 a2 a3 a4 x12_2 x13_1 (wrap64 (x14_2 + 1)))) else (cambistref12_Sum.l1 kj6 l0 a1 a2 a3 a4 x12_2 x13_1 (wrap64 (x14_2 + 1)))) else (none)) else (none)) else (none)) else (none)) = some (r1, r2) := by rw [if_pos rfl] at H; exact H
         clear H
         have H := H1
         clear H1
         by_cases c13 : 0 ≤ x13_1
         ·rw [if_pos c13] at H
          have c13b0 : decide (0 ≤ x13_1) = true := decide_eq_true c13
          clear c13
          by_cases c14 : x13_1 < (l0.length : Int)
          ·rw [if_pos c14] at H
           have c14b0 : decide (x13_1 < (l0.length : Int)) = true := decide_eq_true c14
           clear c14
           by_cases c15 : 0 ≤ x14_2
           ·rw [if_pos c15] at H
            have c15b0 : decide (0 ≤ x14_2) = true := decide_eq_true c15
            clear c15
            by_cases c16 : x14_2 < (((rd_T45 l0 x13_1).f3).length : Int)
            ·rw [if_pos c16] at H
             have c16b0 : decide (x14_2 < (((rd_T45 l0 x13_1).f3).length : Int)) = true := decide_eq_true c16
             clear c16
             by_cases c17 : ((rd_T47 ((rd_T45 l0 x13_1).f3) x14_2).f0).toList = a1.toList
             ·rw [if_pos c17] at H
              have c17b0 : (((rd_T47 ((rd_T45 l0 x13_1).f3) x14_2).f0).toList == a1.toList) = true := beq_iff_eq.mpr c17
              have c17b1 : (((rd_T47 ((rd_T45 l0 x13_1).f3) x14_2).f0).toList != a1.toList) = false := bne_eq_false_iff_eq.mpr c17
              clear c17
              by_cases c18 : ((rd_T47 ((rd_T45 l0 x13_1).f3) x14_2).f1).toList = a2.toList
              ·rw [if_pos c18] at H
               have c18b0 : (((rd_T47 ((rd_T45 l0 x13_1).f3) x14_2).f1).toList == a2.toList) = true := beq_iff_eq.mpr c18
               have c18b1 : (((rd_T47 ((rd_T45 l0 x13_1).f3) x14_2).f1).toList != a2.toList) = false := bne_eq_false_iff_eq.mpr c18
               clear c18
               by_cases c19 : x12_2.length < 17592186044416
               ·rw [if_pos c19] at H
                have LMc19 := a_ c19
                clear c19
                obtain ⟨y184, hy184⟩ : ∃ y_ : List Int, y_ = (x12_2 ++ [(rd_T47 ((rd_T45 l0 x13_1).f3) x14_2).f2]) := ⟨_, rfl⟩
                replace H : (cambistref12_Sum.l1 kj6 l0 a1 a2 a3 a4 y184 x13_1 (wrap64 (x14_2 + 1))) = some (r1, r2) := by first | (rw [hy184]; with_reducible exact H) | (have H2_ := (Option.bind_some _ _).symm.trans H; rw [hy184]; with_reducible exact H2_) | (have H2_ := (Option.bind_some _ _).symm.trans H; with_reducible exact H2_) | with_reducible exact H | (rw [hy184]; exact H) | exact H
                have Ny184 := a_ hy184
                clear hy184
                have H' := a_ H
                clear H
                have p181 : 0 ≤ (x13_1 : Int) := of_decide_eq_true z67_
                have q181 : x13_1 < (l0.length : Int) := of_decide_eq_true z67_
                obtain ⟨ad181, A181_3, c181_3, e181, hx181_0, hx181_1, hx181_2, hx181_3, hl181_3, hi181_3⟩ := at_T45 HR0.out x13_1 p181 q181
                cases e181
                replace hx181_0 := (HB.out.cell (World.block_lt_of_cell? w _ hx181_0)).trans hx181_0
                replace hx181_1 := (HB.out.cell (World.block_lt_of_cell? w _ hx181_1)).trans hx181_1
                replace hx181_2 := (HB.out.cell (World.block_lt_of_cell? w _ hx181_2)).trans hx181_2
                replace hx181_3 := (HB.out.cell (World.block_lt_of_cell? w _ hx181_3)).trans hx181_3
                have HR181_3 := a_ hi181_3
                have HC181_3 := a_ hl181_3
                clear hi181_3 hl181_3
                replace p181 := eq_true p181
                replace q181 := eq_true q181
                have p182 : 0 ≤ (x14_2 : Int) := of_decide_eq_true z67_
                have q182 : x14_2 < (((rd_T45 l0 x13_1).f3).length : Int) := of_decide_eq_true z67_
                obtain ⟨ad182, e182, hx182_0, hx182_1, hx182_2⟩ := at_T47 HR181_3.out x14_2 p182 q182
                cases e182
                replace hx182_0 := (HB.out.cell (World.block_lt_of_cell? w _ hx182_0)).trans hx182_0
                replace hx182_1 := (HB.out.cell (World.block_lt_of_cell? w _ hx182_1)).trans hx182_1
                replace hx182_2 := (HB.out.cell (World.block_lt_of_cell? w _ hx182_2)).trans hx182_2
                replace p182 := eq_true p182
                replace q182 := eq_true q182
                go_wp2_with (first | ((with_reducible refine gate_dst (N := 15) rfl ?_); refine box_event ?hg (N := 15) ?hd (cs := #[.string (⟨#[]⟩ : ByteArray), .string (⟨#[]⟩ : ByteArray), .int .i64 0]) (t := 47) ?hr ?_; (case hd => rfl); (case hg => rfl); (case hr => first | (go_simp; done) | (go_simp; rfl)); intro gb183 hg w20 hbox hb; have n0_ := a_ (Kd.R_below z44_ hb); have n1_ := a_ (below_step z41_ hb); have n2_ := a_ (hbox); have n3_ := a_ ((z27_ : w.heap.size ≤ gb183)); have n4_ := a_ ((z27_ : w.heap.size ≤ gb183)); clear HO_12; clear HB; have HO_12 := n0_; have HB := n1_; have BK183 := n2_; have GW183 := n3_; have GE183 := n4_; clear n0_ n1_ n2_ n3_ n4_; clear hb hbox hg; have hcz21_0 : w20.cell? ⟨gb183, 0, none⟩ = some (.string (⟨#[]⟩ : ByteArray)) := (blk_cell BK183.out 0).trans rfl; have hcz21_1 : w20.cell? ⟨gb183, 1, none⟩ = some (.string (⟨#[]⟩ : ByteArray)) := (blk_cell BK183.out 1).trans rfl; have hcz21_2 : w20.cell? ⟨gb183, 2, none⟩ = some (.int .i64 0) := (blk_cell BK183.out 2).trans rfl; have hfz21_0 := blk_frozen BK183.out 0; have hfz21_1 := blk_frozen BK183.out 1; have hfz21_2 := blk_frozen BK183.out 2) | ((with_reducible refine gate_builtin (b := .append) (xs := #[.tmp 68, .tmp 71]) rfl ?_); at_builtin; refine Kd.R_append (Kd.int .i64) (w0 := w) w.heap.size rfl (.tmp 68) (.tmp 71) 76 2 (.int .i64 0) 8 rfl Tryd.underlying76 info2 rfl (by decide) (by omega) u12 x12_2 ((rd_T47 ((rd_T45 l0 x13_1).f3) x14_2).f2) [.int .i64 ((rd_T47 ((rd_T45 l0 x13_1).f3) x14_2).f2)] (fun _ => True) (fun _ => False) rfl (by first | (go_simp; done) | (go_simp; rfl)) ?aP (fun _ hk => hk.elim) ?aF ?aO ?aB ?aS ?aL ?_; (case aP => exact rfl); (case aB => exact z31_); (case aF => exact (fun _ _ => trivial)); (case aO => exact z4_); (case aS => exact (below_size z31_)); (case aL => have := LMc19.out; omega); intro v185 w22 ho hb hg hat; rw [← Ny184.out] at ho; have n0_ := a_ (blk_grown (g := gb183) (o := .cells #[.string ((rd_T47 ((rd_T45 l0 x13_1).f3) x14_2).f0), .string ((rd_T47 ((rd_T45 l0 x13_1).f3) x14_2).f1), .int .i64 ((rd_T47 ((rd_T45 l0 x13_1).f3) x14_2).f2)] 47 (0, 0)) (by (with_reducible repeat (first | refine kN_ ?_ _ | refine kD_ ?_ | refine kA_ ?_ _)); refine blk_put (cs := #[.string ((rd_T47 ((rd_T45 l0 x13_1).f3) x14_2).f0), .string ((rd_T47 ((rd_T45 l0 x13_1).f3) x14_2).f1), .int .i64 0]) ?_ 2 _ rfl; (with_reducible repeat (first | refine kN_ ?_ _ | refine kD_ ?_ | refine kA_ ?_ _)); refine blk_put (cs := #[.string ((rd_T47 ((rd_T45 l0 x13_1).f3) x14_2).f0), .string (⟨#[]⟩ : ByteArray), .int .i64 0]) ?_ 1 _ rfl; (with_reducible repeat (first | refine kN_ ?_ _ | refine kD_ ?_ | refine kA_ ?_ _)); refine blk_put (cs := #[.string (⟨#[]⟩ : ByteArray), .string (⟨#[]⟩ : ByteArray), .int .i64 0]) ?_ 0 _ rfl; (with_reducible repeat (first | refine kN_ ?_ _ | refine kD_ ?_ | refine kA_ ?_ _)); exact BK183.out) hg (Kd.R_ne HO_12.out BK183.out (by decide))); have n1_ := a_ (hb); have n2_ := a_ (ho); clear BK183; clear HB; clear HO_12; have BK183 := n0_; have HB := n1_; have HO186 := n2_; clear n0_ n1_ n2_; clear ho hb hg hat))
                go_roundg kj6
                case measure => have := HK1.out; have := HK2.out; have := HJ6.out; omega
                case rel => exact ⟨(y184), (wrap64 (x14_2 + 1)), z68_, H', ⟨z66_⟩, ⟨by (with_reducible repeat (first | apply Kd.R_alloc | apply Kd.R_drewN | apply Kd.R_drew)); exact HO186.out⟩, ⟨z31_⟩⟩
               ·rw [if_neg c19] at H
                exact absurd H (by simp)
              ·rw [if_neg c18] at H
               have c18b0 : (((rd_T47 ((rd_T45 l0 x13_1).f3) x14_2).f1).toList == a2.toList) = false := beq_eq_false_iff_ne.mpr c18
               have c18b1 : (((rd_T47 ((rd_T45 l0 x13_1).f3) x14_2).f1).toList != a2.toList) = true := bne_iff_ne.mpr c18
               have H' := a_ H
               clear H
               have p181 : 0 ≤ (x13_1 : Int) := of_decide_eq_true z67_
               have q181 : x13_1 < (l0.length : Int) := of_decide_eq_true z67_
               obtain ⟨ad181, A181_3, c181_3, e181, hx181_0, hx181_1, hx181_2, hx181_3, hl181_3, hi181_3⟩ := at_T45 HR0.out x13_1 p181 q181
               cases e181
               replace hx181_0 := (HB.out.cell (World.block_lt_of_cell? w _ hx181_0)).trans hx181_0
               replace hx181_1 := (HB.out.cell (World.block_lt_of_cell? w _ hx181_1)).trans hx181_1
               replace hx181_2 := (HB.out.cell (World.block_lt_of_cell? w _ hx181_2)).trans hx181_2
               replace hx181_3 := (HB.out.cell (World.block_lt_of_cell? w _ hx181_3)).trans hx181_3
               have HR181_3 := a_ hi181_3
               have HC181_3 := a_ hl181_3
               clear hi181_3 hl181_3
               replace p181 := eq_true p181
               replace q181 := eq_true q181
               have p182 : 0 ≤ (x14_2 : Int) := of_decide_eq_true z67_
               have q182 : x14_2 < (((rd_T45 l0 x13_1).f3).length : Int) := of_decide_eq_true z67_
               obtain ⟨ad182, e182, hx182_0, hx182_1, hx182_2⟩ := at_T47 HR181_3.out x14_2 p182 q182
               cases e182
               replace hx182_0 := (HB.out.cell (World.block_lt_of_cell? w _ hx182_0)).trans hx182_0
               replace hx182_1 := (HB.out.cell (World.block_lt_of_cell? w _ hx182_1)).trans hx182_1
               replace hx182_2 := (HB.out.cell (World.block_lt_of_cell? w _ hx182_2)).trans hx182_2
               replace p182 := eq_true p182
               replace q182 := eq_true q182
               go_wp2_with (first | ((with_reducible refine gate_dst (N := 15) rfl ?_); refine box_event ?hg (N := 15) ?hd (cs := #[.string (⟨#[]⟩ : ByteArray), .string (⟨#[]⟩ : ByteArray), .int .i64 0]) (t := 47) ?hr ?_; (case hd => rfl); (case hg => rfl); (case hr => first | (go_simp; done) | (go_simp; rfl)); intro gb183 hg w23 hbox hb; have n0_ := a_ (Kd.R_below z44_ hb); have n1_ := a_ (below_step z41_ hb); have n2_ := a_ (hbox); have n3_ := a_ ((z27_ : w.heap.size ≤ gb183)); have n4_ := a_ ((z27_ : w.heap.size ≤ gb183)); clear HO_12; clear HB; have HO_12 := n0_; have HB := n1_; have BK183 := n2_; have GW183 := n3_; have GE183 := n4_; clear n0_ n1_ n2_ n3_ n4_; clear hb hbox hg; have hcz24_0 : w23.cell? ⟨gb183, 0, none⟩ = some (.string (⟨#[]⟩ : ByteArray)) := (blk_cell BK183.out 0).trans rfl; have hcz24_1 : w23.cell? ⟨gb183, 1, none⟩ = some (.string (⟨#[]⟩ : ByteArray)) := (blk_cell BK183.out 1).trans rfl; have hcz24_2 : w23.cell? ⟨gb183, 2, none⟩ = some (.int .i64 0) := (blk_cell BK183.out 2).trans rfl; have hfz24_0 := blk_frozen BK183.out 0; have hfz24_1 := blk_frozen BK183.out 1; have hfz24_2 := blk_frozen BK183.out 2))
               go_roundg kj6
               case measure => have := HK1.out; have := HK2.out; have := HJ6.out; omega
               case rel => exact ⟨(x12_2), (wrap64 (x14_2 + 1)), z68_, H', ⟨z66_⟩, ⟨z4_⟩, ⟨z31_⟩⟩
             ·rw [if_neg c17] at H
              have c17b0 : (((rd_T47 ((rd_T45 l0 x13_1).f3) x14_2).f0).toList == a1.toList) = false := beq_eq_false_iff_ne.mpr c17
              have c17b1 : (((rd_T47 ((rd_T45 l0 x13_1).f3) x14_2).f0).toList != a1.toList) = true := bne_iff_ne.mpr c17
              have H' := a_ H
              clear H
              have p181 : 0 ≤ (x13_1 : Int) := of_decide_eq_true z67_
              have q181 : x13_1 < (l0.length : Int) := of_decide_eq_true z67_
              obtain ⟨ad181, A181_3, c181_3, e181, hx181_0, hx181_1, hx181_2, hx181_3, hl181_3, hi181_3⟩ := at_T45 HR0.out x13_1 p181 q181
              cases e181
              replace hx181_0 := (HB.out.cell (World.block_lt_of_cell? w _ hx181_0)).trans hx181_0
              replace hx181_1 := (HB.out.cell (World.block_lt_of_cell? w _ hx181_1)).trans hx181_1
              replace hx181_2 := (HB.out.cell (World.block_lt_of_cell? w _ hx181_2)).trans hx181_2
              replace hx181_3 := (HB.out.cell (World.block_lt_of_cell? w _ hx181_3)).trans hx181_3
              have HR181_3 := a_ hi181_3
              have HC181_3 := a_ hl181_3
              clear hi181_3 hl181_3
              replace p181 := eq_true p181
              replace q181 := eq_true q181
              have p182 : 0 ≤ (x14_2 : Int) := of_decide_eq_true z67_
              have q182 : x14_2 < (((rd_T45 l0 x13_1).f3).length : Int) := of_decide_eq_true z67_
              obtain ⟨ad182, e182, hx182_0, hx182_1, hx182_2⟩ := at_T47 HR181_3.out x14_2 p182 q182
              cases e182
              replace hx182_0 := (HB.out.cell (World.block_lt_of_cell? w _ hx182_0)).trans hx182_0
              replace hx182_1 := (HB.out.cell (World.block_lt_of_cell? w _ hx182_1)).trans hx182_1
              replace hx182_2 := (HB.out.cell (World.block_lt_of_cell? w _ hx182_2)).trans hx182_2
              replace p182 := eq_true p182
              replace q182 := eq_true q182
              go_wp2_with (first | ((with_reducible refine gate_dst (N := 15) rfl ?_); refine box_event ?hg (N := 15) ?hd (cs := #[.string (⟨#[]⟩ : ByteArray), .string (⟨#[]⟩ : ByteArray), .int .i64 0]) (t := 47) ?hr ?_; (case hd => rfl); (case hg => rfl); (case hr => first | (go_simp; done) | (go_simp; rfl)); intro gb183 hg w25 hbox hb; have n0_ := a_ (Kd.R_below z44_ hb); have n1_ := a_ (below_step z41_ hb); have n2_ := a_ (hbox); have n3_ := a_ ((z27_ : w.heap.size ≤ gb183)); have n4_ := a_ ((z27_ : w.heap.size ≤ gb183)); clear HO_12; clear HB; have HO_12 := n0_; have HB := n1_; have BK183 := n2_; have GW183 := n3_; have GE183 := n4_; clear n0_ n1_ n2_ n3_ n4_; clear hb hbox hg; have hcz26_0 : w25.cell? ⟨gb183, 0, none⟩ = some (.string (⟨#[]⟩ : ByteArray)) := (blk_cell BK183.out 0).trans rfl; have hcz26_1 : w25.cell? ⟨gb183, 1, none⟩ = some (.string (⟨#[]⟩ : ByteArray)) := (blk_cell BK183.out 1).trans rfl; have hcz26_2 : w25.cell? ⟨gb183, 2, none⟩ = some (.int .i64 0) := (blk_cell BK183.out 2).trans rfl; have hfz26_0 := blk_frozen BK183.out 0; have hfz26_1 := blk_frozen BK183.out 1; have hfz26_2 := blk_frozen BK183.out 2))
              go_roundg kj6
              case measure => have := HK1.out; have := HK2.out; have := HJ6.out; omega
              case rel => exact ⟨(x12_2), (wrap64 (x14_2 + 1)), z68_, H', ⟨z66_⟩, ⟨z4_⟩, ⟨z31_⟩⟩
            ·rw [if_neg c16] at H
             exact absurd H (by simp)
           ·rw [if_neg c15] at H
            exact absurd H (by simp)
          ·rw [if_neg c14] at H
           exact absurd H (by simp)
         ·rw [if_neg c13] at H
          exact absurd H (by simp)
        ·replace c12 := Bool.eq_false_iff.mpr c12
         subst c12
         have H1 : (cambistref12_Sum.l0 kj6 l0 a1 a2 a3 a4 x12_2 (wrap64 (x13_1 + 1))) = some (r1, r2) := by rw [if_neg (show ¬ (false = true) by decide)] at H; exact H
         clear H
         have H := H1
         clear H1
         have H' := a_ H
         clear H
         go_wp2
         go_roundg kj6
         case measure => have := HK1.out; have := HK2.out; have := HJ6.out; omega
         case rel => exact ⟨(x12_2), (wrap64 (x13_1 + 1)), z68_, H', ⟨z66_⟩, ⟨z44_⟩, ⟨z41_⟩⟩
   ·rw [if_neg c6] at H
    have c6b0 : decide (x13_1 < (l0.length : Int)) = false := decide_eq_false c6
    clear c6
    replace H := Option.bind_eq_some_iff.mp H
    obtain ⟨⟨t176, t177⟩, A270, H⟩ := H
    replace H : (some (t176, t177)) = some (r1, r2) := H
    have A27 := a_ A270
    clear A270
    simp only [Option.some.injEq, Prod.mk.injEq] at H
    obtain ⟨rfl, rfl⟩ := H
    obtain ⟨Ao28, co28, eo28⟩ := Kd.R_slice HO_12.out
    subst eo28
    go_wp2_with (first | ((with_reducible refine gate_callee (f := 39) rfl ?_); refine goesL_ (some 74) rfl rfl Tryd.func39 z71_ rfl #[.slice Ao28 x12_1.length co28] rfl z26_ ?_; (with_reducible refine (cambistref01_Sum.calls k1 _ _ x12_1 t176 t177 _ ?side1 ?side2 ?side3 A27.out).mono ?_); (case side1 => exact Glob.below HG.out z41_); (case side2 => repeat (first | exact (Kd.R_reads' HO_12.out).2.2 | (with_reducible refine Kd.C_alloc ?_ _) | (with_reducible refine Kd.C_drewN ?_ _) | (with_reducible refine Kd.C_drew ?_))); (case side3 => exact (Kd.R_reads' HO_12.out).2.1); rintro e w29 ⟨rfl, hb⟩; refine ⟨_, rfl, ?_⟩; have n0_ := a_ (Kd.R_below z44_ hb); have n1_ := a_ (below_step z41_ hb); clear HO_12; clear HB; have HO_12 := n0_; have HB := n1_; clear n0_ n1_; (try clear hb); (try clear hb2); (try clear hk); (try clear hi)))
    go_ret2
    exact ⟨z61_, z41_⟩

/-! ### cambistref19_whole: function 21 -/
def cambistref19_whole.l0 : Nat → List Int → Int → ByteArray → ByteArray → Int → Int → List (S49) → Int → Option (Int × Int)
 | 0, _, _, _, _, _, _, _, _ => none
 | k + 1, x4, x5, x188000, x188001, x188002, x188003, x188004, x188005 => if x5 < (x188004.length : Int) then (if 0 ≤ x5 then (if x4.length < 17592186044416 then (cambistref19_whole.l0 k (x4 ++ [(rd_T49 x188004 x5).f2]) (wrap64 (x5 + 1)) x188000 x188001 x188002 x188003 x188004 x188005) else (none)) else (none)) else ((cambistref01_Sum.f k x4).bind fun bt195 => (some (bt195.1, bt195.2)))
def cambistref19_whole.f (k : Nat) (a0_0 : ByteArray) (a0_1 : ByteArray) (a0_2 : Int) (a0_3 : Int) (l0_4 : List (S49)) (a0_5 : Int) : Option (Int × Int) := cambistref19_whole.l0 k (([a0_3] : List Int)) 0 a0_0 a0_1 a0_2 a0_3 l0_4 a0_5
theorem cambistref19_whole.mono_l : ∀ k, (∀ y0 y1 y2 y3 y4 y5 y6 y7, LeO (cambistref19_whole.l0 k y0 y1 y2 y3 y4 y5 y6 y7) (cambistref19_whole.l0 (k + 1) y0 y1 y2 y3 y4 y5 y6 y7))
 | 0 => fun _ _ _ _ _ _ _ _ r h => by simp [cambistref19_whole.l0] at h
 | k + 1 => by
  have ih0 := cambistref19_whole.mono_l k
  ·intro y0 y1 y2 y3 y4 y5 y6 y7
   unfold cambistref19_whole.l0
   repeat' first
   | (with_reducible exact ih0 _ _ _ _ _ _ _ _)
   | (with_reducible exact cambistref01_Sum.mono _ _)
   | (with_reducible first | exact LeO.refl _ | exact LeO.none _ | refine LeO.ite ?_ ?_ | refine LeO.bind ?_ fun _ => ?_)
   | exact ih0 _ _ _ _ _ _ _ _
   | exact cambistref01_Sum.mono _ _
theorem cambistref19_whole.mono : ∀ a0 a1 a2 a3 a4 a5 k, LeO (cambistref19_whole.f k a0 a1 a2 a3 a4 a5) (cambistref19_whole.f (k + 1) a0 a1 a2 a3 a4 a5) := by
 intro a0 a1 a2 a3 a4 a5 k
 have ih0 := cambistref19_whole.mono_l k
 unfold cambistref19_whole.f
 repeat' first
   | (with_reducible exact ih0 _ _ _ _ _ _ _ _)
   | (with_reducible exact cambistref01_Sum.mono _ _)
   | (with_reducible first | exact LeO.refl _ | exact LeO.none _ | refine LeO.ite ?_ ?_ | refine LeO.bind ?_ fun _ => ?_)
   | exact ih0 _ _ _ _ _ _ _ _
   | exact cambistref01_Sum.mono _ _
set_option maxHeartbeats 8000000 in
set_option maxRecDepth 100000 in
theorem cambistref19_whole.calls (k : Nat) (a0_0 : ByteArray) (a0_1 : ByteArray) (a0_2 : Int) (a0_3 : Int) (A0_4 : Option Addr) (c0_4 : Nat) (l0_4 : List (S49)) (a0_5 : Int) (r1 : Int) (r2 : Int) (w : World) (hG : Glob w) (hr0_4 : Kd.C k49 w A0_4 l0_4.length l0_4) (hc0_4 : l0_4.length ≤ c0_4) (h : cambistref19_whole.f k a0_0 a0_1 a0_2 a0_3 l0_4 a0_5 = some (r1, r2)) :
  Calls Tryd.prog 21 #[.agg #[.string a0_0, .string a0_1, .int .u64 a0_2, .int .i64 a0_3, .slice A0_4 l0_4.length c0_4, .int .i64 a0_5]] w fun e w' => e = .returned (.tuple #[.int .i64 r1, .int .i64 r2]) ∧ Below w.heap.size w w' := by
 have hu28 := Tryd.underlying28
 have HG := a_ hG
 clear hG
 have HR0_4 := a_ hr0_4
 have HC0_4 := a_ hc0_4
 clear hr0_4 hc0_4
 have HB := a_ (Below.refl w.heap.size w)
 have H : (cambistref19_whole.l0 k (([a0_3] : List Int)) 0 a0_0 a0_1 a0_2 a0_3 l0_4 a0_5) = some (r1, r2) := h
 clear h
 obtain ⟨y188, hy188⟩ : ∃ y_ : List Int, y_ = (([a0_3] : List Int)) := ⟨_, rfl⟩
 replace H : (cambistref19_whole.l0 k y188 0 a0_0 a0_1 a0_2 a0_3 l0_4 a0_5) = some (r1, r2) := by first | (rw [hy188]; with_reducible exact H) | (have H2_ := (Option.bind_some _ _).symm.trans H; rw [hy188]; with_reducible exact H2_) | (have H2_ := (Option.bind_some _ _).symm.trans H; with_reducible exact H2_) | with_reducible exact H | (rw [hy188]; exact H) | exact H
 have Ny188 := a_ hy188
 clear hy188
 have H' := a_ H
 clear H
 go_enter Tryd.func21, Tryd.ntmps21
 go_wp2_with (first | ((with_reducible refine gate_dst (N := 1) rfl ?_); refine box_event ?hg (N := 1) ?hd (cs := #[.string a0_0, .string a0_1, .int .u64 a0_2, .int .i64 a0_3, .slice A0_4 l0_4.length c0_4, .int .i64 a0_5]) (t := 28) ?hr ?_; (case hd => rfl); (case hg => rfl); (case hr => first | (go_simp; done) | (go_simp; rfl)); intro gb187 hg w2 hbox hb; have n0_ := a_ (below_step z41_ hb); have n1_ := a_ (hbox); have n2_ := a_ ((z27_ : w.heap.size ≤ gb187)); have n3_ := a_ ((z27_ : w.heap.size ≤ gb187)); clear HB; have HB := n0_; have BK187 := n1_; have GW187 := n2_; have GE187 := n3_; clear n0_ n1_ n2_ n3_; clear hb hbox hg; have hcz3_0 : w2.cell? ⟨gb187, 0, none⟩ = some (.string a0_0) := (blk_cell BK187.out 0).trans rfl; have hcz3_1 : w2.cell? ⟨gb187, 1, none⟩ = some (.string a0_1) := (blk_cell BK187.out 1).trans rfl; have hcz3_2 : w2.cell? ⟨gb187, 2, none⟩ = some (.int .u64 a0_2) := (blk_cell BK187.out 2).trans rfl; have hcz3_3 : w2.cell? ⟨gb187, 3, none⟩ = some (.int .i64 a0_3) := (blk_cell BK187.out 3).trans rfl; have hcz3_4 : w2.cell? ⟨gb187, 4, none⟩ = some (.slice A0_4 l0_4.length c0_4) := (blk_cell BK187.out 4).trans rfl; have hcz3_5 : w2.cell? ⟨gb187, 5, none⟩ = some (.int .i64 a0_5) := (blk_cell BK187.out 5).trans rfl; have hfz3_0 := blk_frozen BK187.out 0; have hfz3_1 := blk_frozen BK187.out 1; have hfz3_2 := blk_frozen BK187.out 2; have hfz3_3 := blk_frozen BK187.out 3; have hfz3_4 := blk_frozen BK187.out 4; have hfz3_5 := blk_frozen BK187.out 5) | ((with_reducible refine gate_dst (N := 8) rfl ?_); refine Kd.R_lit (Kd.int .i64) _ 2 ?hg (N := 8) ?hd (xs := ([a0_3] : List Int)) (inner := [.int .i64 a0_3]) (ok := fun _ => True) (okp := fun _ => True) ?hr ?hp (fun _ hk => hk) trivial (Below.refl _ _) (Nat.le_refl _) (by simp) ?_; (case hd => rfl); (case hg => rfl); (case hr => first | (go_simp; done) | (go_simp; rfl)); (case hp => exact (Reps.one (show Kd.M (Kd.int .i64) _ _ _ a0_3 [.int .i64 a0_3] from rfl) (Reps.none _ _))); intro v189 w4 ho5 hb hg_ hnew_; clear hg_ hnew_; (first | rw [← Ny188.out] at ho5 | (simp only [Int.reduceToNat] at ho5; rw [← Ny188.out] at ho5)); have n0_ := a_ (Kd.R_lower ho5 (below_size z32_)); have n1_ := a_ (blk_below (g := gb187) (o := .cells #[.string a0_0, .string a0_1, .int .u64 a0_2, .int .i64 a0_3, .slice A0_4 l0_4.length c0_4, .int .i64 a0_5] 28 (0, 0)) z52_ hb); have n2_ := a_ (below_step z32_ hb); clear BK187; clear HB; have HO190 := n0_; have BK187 := n1_; have HB := n2_; clear n0_ n1_ n2_; clear hb ho5))
 go_loopg [4, 5] k (fun kq v4 v5 w' => ∃ (x4_1 : List Int) (x5_1 : Int), v5 = .int .i64 x5_1 ∧ Aside0 (cambistref19_whole.l0 kq x4_1 x5_1 a0_0 a0_1 a0_2 a0_3 l0_4 a0_5 = some (r1, r2)) ∧ Aside0 (kq ≤ k) ∧ Aside0 (Kd.R (Kd.int .i64) 2 w' w.heap.size (fun _ => True) v4 x4_1) ∧ Aside0 (w'.heap[gb187]? = some (.cells #[.string a0_0, .string a0_1, .int .u64 a0_2, .int .i64 a0_3, (.slice A0_4 l0_4.length c0_4), .int .i64 a0_5] 28 (0, 0))) ∧ Aside0 (Below w.heap.size w w'))
 case atStart => exact ⟨(y188), (0), z68_, H', ⟨Nat.le_refl _⟩, ⟨by (with_reducible repeat (first | apply Kd.R_alloc | apply Kd.R_drewN | apply Kd.R_drew)); exact HO190.out⟩, ⟨z52_⟩, ⟨z32_⟩⟩
 case round =>
  clear H'
  try clear c2
  try clear p2
  try clear hcz3_0
  try clear hcz3_1
  try clear hcz3_2
  try clear hcz3_3
  try clear hcz3_4
  try clear hcz3_5
  try clear hfz3_0
  try clear hfz3_1
  try clear hfz3_2
  try clear hfz3_3
  try clear hfz3_4
  try clear hfz3_5
  obtain ⟨x4_1, x5_1, rfl, HA, HK1, HO_4, BK187, HB⟩ := hrel
  cases gk with
  | zero => exact absurd HA.out (by simp [cambistref19_whole.l0])
  | succ k1 =>
   have H := HA.out
   clear HA
   simp only [cambistref19_whole.l0] at H
   by_cases c6 : x5_1 < (l0_4.length : Int)
   ·rw [if_pos c6] at H
    have c6b0 : decide (x5_1 < (l0_4.length : Int)) = true := decide_eq_true c6
    clear c6
    by_cases c7 : 0 ≤ x5_1
    ·rw [if_pos c7] at H
     have c7b0 : decide (0 ≤ x5_1) = true := decide_eq_true c7
     clear c7
     by_cases c8 : x4_1.length < 17592186044416
     ·rw [if_pos c8] at H
      have LMc8 := a_ c8
      clear c8
      obtain ⟨y192, hy192⟩ : ∃ y_ : List Int, y_ = (x4_1 ++ [(rd_T49 l0_4 x5_1).f2]) := ⟨_, rfl⟩
      replace H : (cambistref19_whole.l0 k1 y192 (wrap64 (x5_1 + 1)) a0_0 a0_1 a0_2 a0_3 l0_4 a0_5) = some (r1, r2) := by first | (rw [hy192]; with_reducible exact H) | (have H2_ := (Option.bind_some _ _).symm.trans H; rw [hy192]; with_reducible exact H2_) | (have H2_ := (Option.bind_some _ _).symm.trans H; with_reducible exact H2_) | with_reducible exact H | (rw [hy192]; exact H) | exact H
      have Ny192 := a_ hy192
      clear hy192
      have H' := a_ H
      clear H
      have hcz9_0 : wr.cell? ⟨gb187, 0, none⟩ = some (.string a0_0) := (blk_cell BK187.out 0).trans rfl
      have hcz9_1 : wr.cell? ⟨gb187, 1, none⟩ = some (.string a0_1) := (blk_cell BK187.out 1).trans rfl
      have hcz9_2 : wr.cell? ⟨gb187, 2, none⟩ = some (.int .u64 a0_2) := (blk_cell BK187.out 2).trans rfl
      have hcz9_3 : wr.cell? ⟨gb187, 3, none⟩ = some (.int .i64 a0_3) := (blk_cell BK187.out 3).trans rfl
      have hcz9_4 : wr.cell? ⟨gb187, 4, none⟩ = some (.slice A0_4 l0_4.length c0_4) := (blk_cell BK187.out 4).trans rfl
      have hcz9_5 : wr.cell? ⟨gb187, 5, none⟩ = some (.int .i64 a0_5) := (blk_cell BK187.out 5).trans rfl
      have hfz9_0 := blk_frozen BK187.out 0
      have hfz9_1 := blk_frozen BK187.out 1
      have hfz9_2 := blk_frozen BK187.out 2
      have hfz9_3 := blk_frozen BK187.out 3
      have hfz9_4 := blk_frozen BK187.out 4
      have hfz9_5 := blk_frozen BK187.out 5
      have p191 : 0 ≤ (x5_1 : Int) := of_decide_eq_true z67_
      have q191 : x5_1 < (l0_4.length : Int) := of_decide_eq_true z67_
      obtain ⟨ad191, e191, hx191_0, hx191_1, hx191_2⟩ := at_T49 HR0_4.out x5_1 p191 q191
      cases e191
      replace hx191_0 := (HB.out.cell (World.block_lt_of_cell? w _ hx191_0)).trans hx191_0
      replace hx191_1 := (HB.out.cell (World.block_lt_of_cell? w _ hx191_1)).trans hx191_1
      replace hx191_2 := (HB.out.cell (World.block_lt_of_cell? w _ hx191_2)).trans hx191_2
      replace p191 := eq_true p191
      replace q191 := eq_true q191
      go_wp2_with (first | ((with_reducible refine gate_builtin (b := .append) (xs := #[.tmp 16, .tmp 23]) rfl ?_); at_builtin; refine Kd.R_append (Kd.int .i64) (w0 := w) w.heap.size rfl (.tmp 16) (.tmp 23) 76 2 (.int .i64 0) 8 rfl Tryd.underlying76 info2 rfl (by decide) (by omega) u4 x4_1 ((rd_T49 l0_4 x5_1).f2) [.int .i64 ((rd_T49 l0_4 x5_1).f2)] (fun _ => True) (fun _ => False) rfl rfl ?aP (fun _ hk => hk.elim) ?aF ?aO ?aB ?aS ?aL ?_; (case aP => exact rfl); (case aB => exact z32_); (case aF => exact (fun _ _ => trivial)); (case aO => exact z45_); (case aS => exact (below_size z32_)); (case aL => have := LMc8.out; omega); intro v193 w10 ho hb hg hat; rw [← Ny192.out] at ho; have n0_ := a_ (blk_grown (g := gb187) (o := .cells #[.string a0_0, .string a0_1, .int .u64 a0_2, .int .i64 a0_3, .slice (some ad191) l0_4.length c0_4, .int .i64 a0_5] 28 (0, 0)) z52_ hg (Kd.R_ne HO_4.out BK187.out (by decide))); have n1_ := a_ (hb); have n2_ := a_ (ho); clear BK187; clear HB; clear HO_4; have BK187 := n0_; have HB := n1_; have HO194 := n2_; clear n0_ n1_ n2_; clear ho hb hg hat))
      go_roundg k1
      case measure => have := HK1.out; omega
      case rel => exact ⟨(y192), (wrap64 (x5_1 + 1)), z68_, H', ⟨by have := HK1.out; omega⟩, ⟨by (with_reducible repeat (first | apply Kd.R_alloc | apply Kd.R_drewN | apply Kd.R_drew)); exact HO194.out⟩, ⟨z52_⟩, ⟨z32_⟩⟩
     ·rw [if_neg c8] at H
      exact absurd H (by simp)
    ·rw [if_neg c7] at H
     exact absurd H (by simp)
   ·rw [if_neg c6] at H
    have c6b0 : decide (x5_1 < (l0_4.length : Int)) = false := decide_eq_false c6
    clear c6
    replace H := Option.bind_eq_some_iff.mp H
    obtain ⟨⟨t195, t196⟩, A110, H⟩ := H
    replace H : (some (t195, t196)) = some (r1, r2) := H
    have A11 := a_ A110
    clear A110
    simp only [Option.some.injEq, Prod.mk.injEq] at H
    obtain ⟨rfl, rfl⟩ := H
    have hcz12_0 : wr.cell? ⟨gb187, 0, none⟩ = some (.string a0_0) := (blk_cell BK187.out 0).trans rfl
    have hcz12_1 : wr.cell? ⟨gb187, 1, none⟩ = some (.string a0_1) := (blk_cell BK187.out 1).trans rfl
    have hcz12_2 : wr.cell? ⟨gb187, 2, none⟩ = some (.int .u64 a0_2) := (blk_cell BK187.out 2).trans rfl
    have hcz12_3 : wr.cell? ⟨gb187, 3, none⟩ = some (.int .i64 a0_3) := (blk_cell BK187.out 3).trans rfl
    have hcz12_4 : wr.cell? ⟨gb187, 4, none⟩ = some (.slice A0_4 l0_4.length c0_4) := (blk_cell BK187.out 4).trans rfl
    have hcz12_5 : wr.cell? ⟨gb187, 5, none⟩ = some (.int .i64 a0_5) := (blk_cell BK187.out 5).trans rfl
    have hfz12_0 := blk_frozen BK187.out 0
    have hfz12_1 := blk_frozen BK187.out 1
    have hfz12_2 := blk_frozen BK187.out 2
    have hfz12_3 := blk_frozen BK187.out 3
    have hfz12_4 := blk_frozen BK187.out 4
    have hfz12_5 := blk_frozen BK187.out 5
    obtain ⟨Ao13, co13, eo13⟩ := Kd.R_slice HO_4.out
    subst eo13
    go_wp2_with (first | ((with_reducible refine gate_callee (f := 39) rfl ?_); refine goesL_ (some 26) rfl rfl Tryd.func39 z71_ rfl #[.slice Ao13 x4_1.length co13] rfl z26_ ?_; (with_reducible refine (cambistref01_Sum.calls k1 _ _ x4_1 t195 t196 _ ?side1 ?side2 ?side3 A11.out).mono ?_); (case side1 => exact Glob.below HG.out z32_); (case side2 => repeat (first | exact (Kd.R_reads' HO_4.out).2.2 | (with_reducible refine Kd.C_alloc ?_ _) | (with_reducible refine Kd.C_drewN ?_ _) | (with_reducible refine Kd.C_drew ?_))); (case side3 => exact (Kd.R_reads' HO_4.out).2.1); rintro e w14 ⟨rfl, hb⟩; refine ⟨_, rfl, ?_⟩; have n0_ := a_ (Kd.R_below z45_ hb); have n1_ := a_ (blk_below (g := gb187) (o := .cells #[.string a0_0, .string a0_1, .int .u64 a0_2, .int .i64 a0_3, .slice A0_4 l0_4.length c0_4, .int .i64 a0_5] 28 (0, 0)) z52_ hb); have n2_ := a_ (below_step z32_ hb); clear HO_4; clear BK187; clear HB; have HO_4 := n0_; have BK187 := n1_; have HB := n2_; clear n0_ n1_ n2_; (try clear hb); (try clear hb2); (try clear hk); (try clear hi)))
    go_ret2
    exact ⟨z61_, z32_⟩

end Go.Proofs.YtnngbnhbmgdkoaaDoor.P
