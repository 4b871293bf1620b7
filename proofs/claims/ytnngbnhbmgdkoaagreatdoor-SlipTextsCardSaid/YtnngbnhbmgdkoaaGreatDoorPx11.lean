-- Laid by wip/tools/cprint.py of this claim's own repo (over the kit's print).
import Derived.Test.YtnngbnhbmgdkoaaGreatDoorSq
import Derived.Test.YtnngbnhbmgdkoaaGreatDoorPx0
import Derived.Test.YtnngbnhbmgdkoaaGreatDoorPx2
import Derived.Test.YtnngbnhbmgdkoaaGreatDoorPx3
import Derived.Test.YtnngbnhbmgdkoaaGreatDoorPx4
import Derived.Test.YtnngbnhbmgdkoaaGreatDoorPx6
import Derived.Test.YtnngbnhbmgdkoaaGreatDoorPx7
import Derived.Test.YtnngbnhbmgdkoaaGreatDoorPx9
import Derived.Test.YtnngbnhbmgdkoaaGreatDoorAwake19
import Derived.Test.YtnngbnhbmgdkoaaGreatDoorSParse
import Derived.Test.YtnngbnhbmgdkoaaGreatDoorSText
namespace Go.Proofs.YtnngbnhbmgdkoaaGreatDoor.P
open Go.RowKit Go.Proofs.YtnngbnhbmgdkoaaGreatDoor.E Go.Proofs.YtnngbnhbmgdkoaaGreatDoorW.PrintWords Go.Proofs.YtnngbnhbmgdkoaaGreatDoorW.PrintLast
set_option linter.unusedVariables false
set_option linter.unusedSimpArgs false

/-! ### cambistlaw19_SlipTexts: function 3 -/
def cambistlaw19_SlipTexts.j0 : Nat → ByteArray → Bool → Bool → ByteArray → ByteArray → Int → Int → List (S37) → Int → Option (Bool)
 | 0, _, _, _, _, _, _, _, _, _ => none
 | k + 1, x1, x5, x23, x277000, x277001, x277002, x277003, x277004, x277005 => if x23 = true then (some x5) else ((slip_Text.f k x277000 x277001 x277002 x277003 x277004 x277005).bind fun bt279 => ((cambistref19_Text.f k x277000 x277001 x277002 x277003 x277004 x277005).bind fun bt281 => ((slip_Parse.f k x1).bind fun bt283 => ((cambistref19_Parse.f k x1).bind fun bt293 => ((cambistref19_Same.f k bt283.1 bt283.2.1 bt283.2.2.1 bt283.2.2.2.1 bt283.2.2.2.2.1 bt283.2.2.2.2.2.1 bt293.1 bt293.2.1 bt293.2.2.1 bt293.2.2.2.1 bt293.2.2.2.2.1 bt293.2.2.2.2.2.1).bind fun t303 => (if x5 = true then (if bt279.1.toList = bt281.1.toList then (if bt279.2 = bt281.2 then (if t303 = true then (if bt283.2.2.2.2.2.2 = bt293.2.2.2.2.2.2 then ((slip_Check.f k x277000 x277001 x277002 x277003 x277004 x277005).bind fun t304 => ((cambistref19_Check.f k x277000 x277001 x277002 x277003 x277004 x277005).bind fun t305 => (some (t304 == t305)))) else (none)) else (none)) else (none)) else (none)) else (none)))))))
def cambistlaw19_SlipTexts.f (k : Nat) (a0_0 : ByteArray) (a0_1 : ByteArray) (a0_2 : Int) (a0_3 : Int) (l0_4 : List (S37)) (a0_5 : Int) (a1 : ByteArray) : Option (Bool) := (cambistlaw19_awake.f).bind fun t277 => ((cambistlaw19_small.f k a0_0 a0_1 a0_2 a0_3 l0_4 a0_5).bind fun t278 => (if t278 = true then (cambistlaw19_SlipTexts.j0 k a1 t277 (decide ((a1.size : Int) > 1000)) a0_0 a0_1 a0_2 a0_3 l0_4 a0_5) else (cambistlaw19_SlipTexts.j0 k a1 t277 true a0_0 a0_1 a0_2 a0_3 l0_4 a0_5)))
theorem cambistlaw19_SlipTexts.mono_l : ∀ k, (∀ y0 y1 y2 y3 y4 y5 y6 y7 y8, LeO (cambistlaw19_SlipTexts.j0 k y0 y1 y2 y3 y4 y5 y6 y7 y8) (cambistlaw19_SlipTexts.j0 (k + 1) y0 y1 y2 y3 y4 y5 y6 y7 y8))
 | 0 => fun _ _ _ _ _ _ _ _ _ r h => by simp [cambistlaw19_SlipTexts.j0] at h
 | k + 1 => by
  have ih0 := cambistlaw19_SlipTexts.mono_l k
  ·intro y0 y1 y2 y3 y4 y5 y6 y7 y8
   unfold cambistlaw19_SlipTexts.j0
   repeat' first
   | (with_reducible exact ih0 _ _ _ _ _ _ _ _ _)
   | (with_reducible exact cambistlaw19_small.mono _ _ _ _ _ _ _)
   | (with_reducible exact cambistref19_Check.mono _ _ _ _ _ _ _)
   | (with_reducible exact cambistref19_Parse.mono _ _)
   | (with_reducible exact cambistref19_Same.mono _ _ _ _ _ _ _ _ _ _ _ _ _)
   | (with_reducible exact cambistref19_Text.mono _ _ _ _ _ _ _)
   | (with_reducible exact slip_Check.mono _ _ _ _ _ _ _)
   | (with_reducible exact slip_Parse.mono _ _)
   | (with_reducible exact slip_Text.mono _ _ _ _ _ _ _)
   | (with_reducible first | exact LeO.refl _ | exact LeO.none _ | refine LeO.ite ?_ ?_ | refine LeO.bind ?_ fun _ => ?_)
   | exact ih0 _ _ _ _ _ _ _ _ _
   | exact cambistlaw19_small.mono _ _ _ _ _ _ _
   | exact cambistref19_Check.mono _ _ _ _ _ _ _
   | exact cambistref19_Parse.mono _ _
   | exact cambistref19_Same.mono _ _ _ _ _ _ _ _ _ _ _ _ _
   | exact cambistref19_Text.mono _ _ _ _ _ _ _
   | exact slip_Check.mono _ _ _ _ _ _ _
   | exact slip_Parse.mono _ _
   | exact slip_Text.mono _ _ _ _ _ _ _
theorem cambistlaw19_SlipTexts.mono : ∀ a0 a1 a2 a3 a4 a5 a6 k, LeO (cambistlaw19_SlipTexts.f k a0 a1 a2 a3 a4 a5 a6) (cambistlaw19_SlipTexts.f (k + 1) a0 a1 a2 a3 a4 a5 a6) := by
 intro a0 a1 a2 a3 a4 a5 a6 k
 have ih0 := cambistlaw19_SlipTexts.mono_l k
 unfold cambistlaw19_SlipTexts.f
 repeat' first
   | (with_reducible exact ih0 _ _ _ _ _ _ _ _ _)
   | (with_reducible exact cambistlaw19_small.mono _ _ _ _ _ _ _)
   | (with_reducible exact cambistref19_Check.mono _ _ _ _ _ _ _)
   | (with_reducible exact cambistref19_Parse.mono _ _)
   | (with_reducible exact cambistref19_Same.mono _ _ _ _ _ _ _ _ _ _ _ _ _)
   | (with_reducible exact cambistref19_Text.mono _ _ _ _ _ _ _)
   | (with_reducible exact slip_Check.mono _ _ _ _ _ _ _)
   | (with_reducible exact slip_Parse.mono _ _)
   | (with_reducible exact slip_Text.mono _ _ _ _ _ _ _)
   | (with_reducible first | exact LeO.refl _ | exact LeO.none _ | refine LeO.ite ?_ ?_ | refine LeO.bind ?_ fun _ => ?_)
   | exact ih0 _ _ _ _ _ _ _ _ _
   | exact cambistlaw19_small.mono _ _ _ _ _ _ _
   | exact cambistref19_Check.mono _ _ _ _ _ _ _
   | exact cambistref19_Parse.mono _ _
   | exact cambistref19_Same.mono _ _ _ _ _ _ _ _ _ _ _ _ _
   | exact cambistref19_Text.mono _ _ _ _ _ _ _
   | exact slip_Check.mono _ _ _ _ _ _ _
   | exact slip_Parse.mono _ _
   | exact slip_Text.mono _ _ _ _ _ _ _
def cambistlaw19_SlipTexts.T9 : Bool × List (List Nat × List Nat) := (true, [([], []), ([0], [0]), ([1], [1]), ([1], [1]), ([2, 3, 1], [1, 2, 3]), ([1, 4], [1, 4]), ([5, 1], [5]), ([6], [6]), ([6], [6]), ([7, 8, 6], [6, 7, 8]), ([6, 9], [6, 9]), ([10, 6], [10]), ([11], [11]), ([11, 12], [11, 12]), ([13, 11], [13]), ([14], [14]), ([14], [14]), ([15, 16, 14], [14, 15, 16]), ([14, 17], [14, 17]), ([18, 14], [18]), ([19], [19]), ([20, 19, 19], [19, 20]), ([19], [19]), ([22, 21, 19], [19, 22]), ([21, 23, 19], [19, 21, 23]), ([19, 24], [19, 24]), ([25, 23, 0, 1, 2, 3, 4, 5, 6, 7, 8, 9, 10, 11, 12, 13, 14, 15, 16, 17, 18, 19, 20, 21, 22, 23, 24, 25], [25])])
def cambistlaw19_SlipTexts.B9 : List Nat := [0, 1, 3, 3, 15, 31, 63, 127, 127, 511, 1023, 2047, 4095, 8191, 16383, 32767, 32767, 131071, 262143, 524287, 1048575, 2097151, 1048575, 8388607, 16777215, 33554431, 67108863]
theorem cambistlaw19_SlipTexts.tab9 : rtab .any (opsOf Tryz.f3 9) = cambistlaw19_SlipTexts.T9 := by kernel_rfl
theorem cambistlaw19_SlipTexts.bits9 : waitsOk cambistlaw19_SlipTexts.T9.2 cambistlaw19_SlipTexts.B9 = true := by kernel_rfl
set_option maxHeartbeats 8000000 in
set_option maxRecDepth 100000 in
theorem cambistlaw19_SlipTexts.calls (k : Nat) (a0_0 : ByteArray) (a0_1 : ByteArray) (a0_2 : Int) (a0_3 : Int) (A0_4 : Option Addr) (c0_4 : Nat) (l0_4 : List (S37)) (a0_5 : Int) (a1 : ByteArray) (r : Bool) (w : World) (hG : Glob w) (hr0_4 : Kd.C k37 w A0_4 l0_4.length l0_4) (hc0_4 : l0_4.length ≤ c0_4) (h : cambistlaw19_SlipTexts.f k a0_0 a0_1 a0_2 a0_3 l0_4 a0_5 a1 = some r) :
  Calls Tryz.prog 3 #[.agg #[.string a0_0, .string a0_1, .int .u64 a0_2, .int .i64 a0_3, .slice A0_4 l0_4.length c0_4, .int .i64 a0_5], .string a1] w fun e w' => e = .returned (.bool r) ∧ Below w.heap.size w w' := by
 have hu25 := Tryz.underlying25
 have HG := a_ hG
 clear hG
 have HR0_4 := a_ hr0_4
 have HC0_4 := a_ hc0_4
 clear hr0_4 hc0_4
 have HB := a_ (Below.refl w.heap.size w)
 have H : ((cambistlaw19_awake.f).bind fun t277 => ((cambistlaw19_small.f k a0_0 a0_1 a0_2 a0_3 l0_4 a0_5).bind fun t278 => (if t278 = true then (cambistlaw19_SlipTexts.j0 k a1 t277 (decide ((a1.size : Int) > 1000)) a0_0 a0_1 a0_2 a0_3 l0_4 a0_5) else (cambistlaw19_SlipTexts.j0 k a1 t277 true a0_0 a0_1 a0_2 a0_3 l0_4 a0_5)))) = some r := h
 clear h
 replace H := Option.bind_eq_some_iff.mp H
 obtain ⟨t277, A30, H⟩ := H
 replace H : ((cambistlaw19_small.f k a0_0 a0_1 a0_2 a0_3 l0_4 a0_5).bind fun t278 => (if t278 = true then (cambistlaw19_SlipTexts.j0 k a1 t277 (decide ((a1.size : Int) > 1000)) a0_0 a0_1 a0_2 a0_3 l0_4 a0_5) else (cambistlaw19_SlipTexts.j0 k a1 t277 true a0_0 a0_1 a0_2 a0_3 l0_4 a0_5))) = some r := H
 have A3 := a_ A30
 clear A30
 have HC4 := a_ H
 clear H
 go_enter Tryz.func3, Tryz.ntmps3
 go_upto_region 2 with (first | ((with_reducible refine gate_dst (N := 2) rfl ?_); (try (refine gate_guard (by rfl) ?_; dsimp only)); refine box_event ?hg (N := 2) ?hd (cs := #[.string a0_0, .string a0_1, .int .u64 a0_2, .int .i64 a0_3, .slice A0_4 l0_4.length c0_4, .int .i64 a0_5]) (t := 25) ?hr ?_; (case hd => rfl); (case hg => rfl); (case hr => first | (go_simp; done) | (go_simp; rfl)); intro gb276 hg w5 hbox hb; have n0_ := a_ (below_step z45_ hb); have n1_ := a_ (hbox); have n2_ := a_ ((z32_ : w.heap.size ≤ gb276)); have n3_ := a_ ((z32_ : w.heap.size ≤ gb276)); clear HB; have HB := n0_; have BK276 := n1_; have GW276 := n2_; have GE276 := n3_; clear n0_ n1_ n2_ n3_; clear hb hbox hg) | ((with_reducible refine gate_callee (f := 4) rfl ?_); refine goesL_ (some 15) rfl rfl Tryz.func4 z85_ rfl #[] rfl z31_ ?_; (with_reducible refine (cambistlaw19_awake.calls  t277 _ ?side1 A3.out).mono ?_); (case side1 => exact Glob.below HG.out z42_); rintro e w6 ⟨rfl, hb⟩; refine ⟨_, rfl, ?_⟩; have n0_ := a_ (blk_below (g := gb276) (o := .cells #[.string a0_0, .string a0_1, .int .u64 a0_2, .int .i64 a0_3, .slice A0_4 l0_4.length c0_4, .int .i64 a0_5] 25 (0, 0)) z74_ hb); have n1_ := a_ (below_step z42_ hb); clear BK276; clear HB; have BK276 := n0_; have HB := n1_; clear n0_ n1_; (try clear hb); (try clear hb2); (try clear hk); (try clear hi)))
 (try simp only [Act.put, sT_, s0_, sS_])
 go_cut [23] (fun v23 wc => ∃ (kq : Nat) (x23_3 : Bool), v23 = .bool x23_3 ∧ Aside0 (cambistlaw19_SlipTexts.j0 kq a1 t277 x23_3 a0_0 a0_1 a0_2 a0_3 l0_4 a0_5 = some r) ∧ Aside0 (kq ≤ k) ∧ Aside0 (wc.heap[gb276]? = some (.cells #[.string a0_0, .string a0_1, .int .u64 a0_2, .int .i64 a0_3, (.slice A0_4 l0_4.length c0_4), .int .i64 a0_5] 25 (0, 0))) ∧ Aside0 (Below w.heap.size w wc))
 case first =>
  have H := HC4.out
  clear HC4
  replace H := Option.bind_eq_some_iff.mp H
  obtain ⟨t278, A70, H⟩ := H
  replace H : (if t278 = true then (cambistlaw19_SlipTexts.j0 k a1 t277 (decide ((a1.size : Int) > 1000)) a0_0 a0_1 a0_2 a0_3 l0_4 a0_5) else (cambistlaw19_SlipTexts.j0 k a1 t277 true a0_0 a0_1 a0_2 a0_3 l0_4 a0_5)) = some r := H
  have A7 := a_ A70
  clear A70
  by_cases c8 : t278 = true
  ·subst c8
   have H1 : (cambistlaw19_SlipTexts.j0 k a1 t277 (decide ((a1.size : Int) > 1000)) a0_0 a0_1 a0_2 a0_3 l0_4 a0_5) = some r := by rw [if_pos rfl] at H; exact H
   clear H
   have H := H1
   clear H1
   have H' := a_ H
   clear H
   have hcz9_0 : w6.cell? ⟨gb276, 0, none⟩ = some (.string a0_0) := (blk_cell BK276.out 0).trans rfl
   have hcz9_1 : w6.cell? ⟨gb276, 1, none⟩ = some (.string a0_1) := (blk_cell BK276.out 1).trans rfl
   have hcz9_2 : w6.cell? ⟨gb276, 2, none⟩ = some (.int .u64 a0_2) := (blk_cell BK276.out 2).trans rfl
   have hcz9_3 : w6.cell? ⟨gb276, 3, none⟩ = some (.int .i64 a0_3) := (blk_cell BK276.out 3).trans rfl
   have hcz9_4 : w6.cell? ⟨gb276, 4, none⟩ = some (.slice A0_4 l0_4.length c0_4) := (blk_cell BK276.out 4).trans rfl
   have hcz9_5 : w6.cell? ⟨gb276, 5, none⟩ = some (.int .i64 a0_5) := (blk_cell BK276.out 5).trans rfl
   have hfz9_0 := blk_frozen BK276.out 0
   have hfz9_1 := blk_frozen BK276.out 1
   have hfz9_2 := blk_frozen BK276.out 2
   have hfz9_3 := blk_frozen BK276.out 3
   have hfz9_4 := blk_frozen BK276.out 4
   have hfz9_5 := blk_frozen BK276.out 5
   go_wp2_with (first | ((with_reducible refine gate_callee (f := 5) rfl ?_); refine goesL_ (some 17) rfl rfl Tryz.func5 z85_ rfl #[.agg #[.string a0_0, .string a0_1, .int .u64 a0_2, .int .i64 a0_3, .slice A0_4 l0_4.length c0_4, .int .i64 a0_5]] rfl z31_ ?_; (with_reducible refine (cambistlaw19_small.calls k a0_0 a0_1 a0_2 a0_3 _ _ l0_4 a0_5 true _ ?side1 ?side2 ?side3 A7.out).mono ?_); (case side1 => exact Glob.below HG.out z42_); (case side2 => repeat (first | exact (Kd.C_below HR0_4.out HB.out) | (with_reducible refine Kd.C_alloc ?_ _) | (with_reducible refine Kd.C_drewN ?_ _) | (with_reducible refine Kd.C_drew ?_))); (case side3 => exact HC0_4.out); rintro e w10 ⟨rfl, hb⟩; refine ⟨_, rfl, ?_⟩; have n0_ := a_ (blk_below (g := gb276) (o := .cells #[.string a0_0, .string a0_1, .int .u64 a0_2, .int .i64 a0_3, .slice A0_4 l0_4.length c0_4, .int .i64 a0_5] 25 (0, 0)) z74_ hb); have n1_ := a_ (below_step z42_ hb); clear BK276; clear HB; have BK276 := n0_; have HB := n1_; clear n0_ n1_; (try clear hb); (try clear hb2); (try clear hk); (try clear hi)))
   go_meet
   case rel => exact ⟨_, (decide ((a1.size : Int) > 1000)), z80_, H', ⟨z83_⟩, ⟨z74_⟩, ⟨z42_⟩⟩
  ·replace c8 := Bool.eq_false_iff.mpr c8
   subst c8
   have H1 : (cambistlaw19_SlipTexts.j0 k a1 t277 true a0_0 a0_1 a0_2 a0_3 l0_4 a0_5) = some r := by rw [if_neg (show ¬ (false = true) by decide)] at H; exact H
   clear H
   have H := H1
   clear H1
   have H' := a_ H
   clear H
   have hcz11_0 : w6.cell? ⟨gb276, 0, none⟩ = some (.string a0_0) := (blk_cell BK276.out 0).trans rfl
   have hcz11_1 : w6.cell? ⟨gb276, 1, none⟩ = some (.string a0_1) := (blk_cell BK276.out 1).trans rfl
   have hcz11_2 : w6.cell? ⟨gb276, 2, none⟩ = some (.int .u64 a0_2) := (blk_cell BK276.out 2).trans rfl
   have hcz11_3 : w6.cell? ⟨gb276, 3, none⟩ = some (.int .i64 a0_3) := (blk_cell BK276.out 3).trans rfl
   have hcz11_4 : w6.cell? ⟨gb276, 4, none⟩ = some (.slice A0_4 l0_4.length c0_4) := (blk_cell BK276.out 4).trans rfl
   have hcz11_5 : w6.cell? ⟨gb276, 5, none⟩ = some (.int .i64 a0_5) := (blk_cell BK276.out 5).trans rfl
   have hfz11_0 := blk_frozen BK276.out 0
   have hfz11_1 := blk_frozen BK276.out 1
   have hfz11_2 := blk_frozen BK276.out 2
   have hfz11_3 := blk_frozen BK276.out 3
   have hfz11_4 := blk_frozen BK276.out 4
   have hfz11_5 := blk_frozen BK276.out 5
   go_wp2_with (first | ((with_reducible refine gate_callee (f := 5) rfl ?_); refine goesL_ (some 17) rfl rfl Tryz.func5 z85_ rfl #[.agg #[.string a0_0, .string a0_1, .int .u64 a0_2, .int .i64 a0_3, .slice A0_4 l0_4.length c0_4, .int .i64 a0_5]] rfl z31_ ?_; (with_reducible refine (cambistlaw19_small.calls k a0_0 a0_1 a0_2 a0_3 _ _ l0_4 a0_5 false _ ?side1 ?side2 ?side3 A7.out).mono ?_); (case side1 => exact Glob.below HG.out z42_); (case side2 => repeat (first | exact (Kd.C_below HR0_4.out HB.out) | (with_reducible refine Kd.C_alloc ?_ _) | (with_reducible refine Kd.C_drewN ?_ _) | (with_reducible refine Kd.C_drew ?_))); (case side3 => exact HC0_4.out); rintro e w12 ⟨rfl, hb⟩; refine ⟨_, rfl, ?_⟩; have n0_ := a_ (blk_below (g := gb276) (o := .cells #[.string a0_0, .string a0_1, .int .u64 a0_2, .int .i64 a0_3, .slice A0_4 l0_4.length c0_4, .int .i64 a0_5] 25 (0, 0)) z74_ hb); have n1_ := a_ (below_step z42_ hb); clear BK276; clear HB; have BK276 := n0_; have HB := n1_; clear n0_ n1_; (try clear hb); (try clear hb2); (try clear hk); (try clear hi)))
   go_meet
   case rel => exact ⟨_, (true), z80_, H', ⟨z83_⟩, ⟨z74_⟩, ⟨z42_⟩⟩
 case rest =>
  clear HC4
  try clear p2
  try clear c3
  try clear c4
  try clear c5
  try clear c8
  try clear hcz11_0
  try clear hcz11_1
  try clear hcz11_2
  try clear hcz11_3
  try clear hcz11_4
  try clear hcz11_5
  try clear hcz9_0
  try clear hcz9_1
  try clear hcz9_2
  try clear hcz9_3
  try clear hcz9_4
  try clear hcz9_5
  try clear hfz11_0
  try clear hfz11_1
  try clear hfz11_2
  try clear hfz11_3
  try clear hfz11_4
  try clear hfz11_5
  try clear hfz9_0
  try clear hfz9_1
  try clear hfz9_2
  try clear hfz9_3
  try clear hfz9_4
  try clear hfz9_5
  obtain ⟨kq, x23_3, rfl, HA, HJ3, BK276, HB⟩ := hcut
  cases kq with
  | zero => exact absurd HA.out (by simp [cambistlaw19_SlipTexts.j0])
  | succ kj3 =>
   have H := HA.out
   clear HA
   simp only [cambistlaw19_SlipTexts.j0] at H
   by_cases c13 : x23_3 = true
   ·subst c13
    have H1 : (some t277) = some r := by rw [if_pos rfl] at H; exact H
    clear H
    have H := H1
    clear H1
    obtain rfl := Option.some.inj H
    go_wp2
    go_ret
    exact ⟨z76_, z42_⟩
   ·replace c13 := Bool.eq_false_iff.mpr c13
    subst c13
    have H1 : ((slip_Text.f kj3 a0_0 a0_1 a0_2 a0_3 l0_4 a0_5).bind fun bt279 => ((cambistref19_Text.f kj3 a0_0 a0_1 a0_2 a0_3 l0_4 a0_5).bind fun bt281 => ((slip_Parse.f kj3 a1).bind fun bt283 => ((cambistref19_Parse.f kj3 a1).bind fun bt293 => ((cambistref19_Same.f kj3 bt283.1 bt283.2.1 bt283.2.2.1 bt283.2.2.2.1 bt283.2.2.2.2.1 bt283.2.2.2.2.2.1 bt293.1 bt293.2.1 bt293.2.2.1 bt293.2.2.2.1 bt293.2.2.2.2.1 bt293.2.2.2.2.2.1).bind fun t303 => (if t277 = true then (if bt279.1.toList = bt281.1.toList then (if bt279.2 = bt281.2 then (if t303 = true then (if bt283.2.2.2.2.2.2 = bt293.2.2.2.2.2.2 then ((slip_Check.f kj3 a0_0 a0_1 a0_2 a0_3 l0_4 a0_5).bind fun t304 => ((cambistref19_Check.f kj3 a0_0 a0_1 a0_2 a0_3 l0_4 a0_5).bind fun t305 => (some (t304 == t305)))) else (none)) else (none)) else (none)) else (none)) else (none))))))) = some r := by rw [if_neg (show ¬ (false = true) by decide)] at H; exact H
    clear H
    have H := H1
    clear H1
    replace H := Option.bind_eq_some_iff.mp H
    obtain ⟨⟨t279, t280⟩, A140, H⟩ := H
    replace H : ((cambistref19_Text.f kj3 a0_0 a0_1 a0_2 a0_3 l0_4 a0_5).bind fun bt281 => ((slip_Parse.f kj3 a1).bind fun bt283 => ((cambistref19_Parse.f kj3 a1).bind fun bt293 => ((cambistref19_Same.f kj3 bt283.1 bt283.2.1 bt283.2.2.1 bt283.2.2.2.1 bt283.2.2.2.2.1 bt283.2.2.2.2.2.1 bt293.1 bt293.2.1 bt293.2.2.1 bt293.2.2.2.1 bt293.2.2.2.2.1 bt293.2.2.2.2.2.1).bind fun t303 => (if t277 = true then (if t279.toList = bt281.1.toList then (if t280 = bt281.2 then (if t303 = true then (if bt283.2.2.2.2.2.2 = bt293.2.2.2.2.2.2 then ((slip_Check.f kj3 a0_0 a0_1 a0_2 a0_3 l0_4 a0_5).bind fun t304 => ((cambistref19_Check.f kj3 a0_0 a0_1 a0_2 a0_3 l0_4 a0_5).bind fun t305 => (some (t304 == t305)))) else (none)) else (none)) else (none)) else (none)) else (none)))))) = some r := H
    have A14 := a_ A140
    clear A140
    replace H := Option.bind_eq_some_iff.mp H
    obtain ⟨⟨t281, t282⟩, A150, H⟩ := H
    replace H : ((slip_Parse.f kj3 a1).bind fun bt283 => ((cambistref19_Parse.f kj3 a1).bind fun bt293 => ((cambistref19_Same.f kj3 bt283.1 bt283.2.1 bt283.2.2.1 bt283.2.2.2.1 bt283.2.2.2.2.1 bt283.2.2.2.2.2.1 bt293.1 bt293.2.1 bt293.2.2.1 bt293.2.2.2.1 bt293.2.2.2.2.1 bt293.2.2.2.2.2.1).bind fun t303 => (if t277 = true then (if t279.toList = t281.toList then (if t280 = t282 then (if t303 = true then (if bt283.2.2.2.2.2.2 = bt293.2.2.2.2.2.2 then ((slip_Check.f kj3 a0_0 a0_1 a0_2 a0_3 l0_4 a0_5).bind fun t304 => ((cambistref19_Check.f kj3 a0_0 a0_1 a0_2 a0_3 l0_4 a0_5).bind fun t305 => (some (t304 == t305)))) else (none)) else (none)) else (none)) else (none)) else (none))))) = some r := H
    have A15 := a_ A150
    clear A150
    replace H := Option.bind_eq_some_iff.mp H
    obtain ⟨⟨t283, t284, t285, t286, t287, t290, t291⟩, A160, H⟩ := H
    replace H : ((cambistref19_Parse.f kj3 a1).bind fun bt293 => ((cambistref19_Same.f kj3 t283 t284 t285 t286 t287 t290 bt293.1 bt293.2.1 bt293.2.2.1 bt293.2.2.2.1 bt293.2.2.2.2.1 bt293.2.2.2.2.2.1).bind fun t303 => (if t277 = true then (if t279.toList = t281.toList then (if t280 = t282 then (if t303 = true then (if t291 = bt293.2.2.2.2.2.2 then ((slip_Check.f kj3 a0_0 a0_1 a0_2 a0_3 l0_4 a0_5).bind fun t304 => ((cambistref19_Check.f kj3 a0_0 a0_1 a0_2 a0_3 l0_4 a0_5).bind fun t305 => (some (t304 == t305)))) else (none)) else (none)) else (none)) else (none)) else (none)))) = some r := H
    have A16 := a_ A160
    clear A160
    replace H := Option.bind_eq_some_iff.mp H
    obtain ⟨⟨t293, t294, t295, t296, t297, t300, t301⟩, A170, H⟩ := H
    replace H : ((cambistref19_Same.f kj3 t283 t284 t285 t286 t287 t290 t293 t294 t295 t296 t297 t300).bind fun t303 => (if t277 = true then (if t279.toList = t281.toList then (if t280 = t282 then (if t303 = true then (if t291 = t301 then ((slip_Check.f kj3 a0_0 a0_1 a0_2 a0_3 l0_4 a0_5).bind fun t304 => ((cambistref19_Check.f kj3 a0_0 a0_1 a0_2 a0_3 l0_4 a0_5).bind fun t305 => (some (t304 == t305)))) else (none)) else (none)) else (none)) else (none)) else (none))) = some r := H
    have A17 := a_ A170
    clear A170
    replace H := Option.bind_eq_some_iff.mp H
    obtain ⟨t303, A180, H⟩ := H
    replace H : (if t277 = true then (if t279.toList = t281.toList then (if t280 = t282 then (if t303 = true then (if t291 = t301 then ((slip_Check.f kj3 a0_0 a0_1 a0_2 a0_3 l0_4 a0_5).bind fun t304 => ((cambistref19_Check.f kj3 a0_0 a0_1 a0_2 a0_3 l0_4 a0_5).bind fun t305 => (some (t304 == t305)))) else (none)) else (none)) else (none)) else (none)) else (none)) = some r := H
    have A18 := a_ A180
    clear A180
    by_cases c19 : t277 = true
    ·subst c19
     have H1 : (if t279.toList = t281.toList then (if t280 = t282 then (if t303 = true then (if t291 = t301 then ((slip_Check.f kj3 a0_0 a0_1 a0_2 a0_3 l0_4 a0_5).bind fun t304 => ((cambistref19_Check.f kj3 a0_0 a0_1 a0_2 a0_3 l0_4 a0_5).bind fun t305 => (some (t304 == t305)))) else (none)) else (none)) else (none)) else (none)) = some r := by rw [if_pos rfl] at H; exact H
     clear H
     have H := H1
     clear H1
     by_cases c20 : t279.toList = t281.toList
     ·rw [if_pos c20] at H
      have c20b0 : (t279.toList == t281.toList) = true := beq_iff_eq.mpr c20
      have c20b1 : (t279.toList != t281.toList) = false := bne_eq_false_iff_eq.mpr c20
      clear c20
      by_cases c21 : t280 = t282
      ·rw [if_pos c21] at H
       have c21b0 : (t280 == t282) = true := beq_iff_eq.mpr c21
       have c21b1 : (t280 != t282) = false := bne_eq_false_iff_eq.mpr c21
       clear c21
       by_cases c22 : t303 = true
       ·subst c22
        have H1 : (if t291 = t301 then ((slip_Check.f kj3 a0_0 a0_1 a0_2 a0_3 l0_4 a0_5).bind fun t304 => ((cambistref19_Check.f kj3 a0_0 a0_1 a0_2 a0_3 l0_4 a0_5).bind fun t305 => (some (t304 == t305)))) else (none)) = some r := by rw [if_pos rfl] at H; exact H
        clear H
        have H := H1
        clear H1
        by_cases c23 : t291 = t301
        ·rw [if_pos c23] at H
         have c23b0 : (t291 == t301) = true := beq_iff_eq.mpr c23
         have c23b1 : (t291 != t301) = false := bne_eq_false_iff_eq.mpr c23
         clear c23
         replace H := Option.bind_eq_some_iff.mp H
         obtain ⟨t304, A240, H⟩ := H
         replace H : ((cambistref19_Check.f kj3 a0_0 a0_1 a0_2 a0_3 l0_4 a0_5).bind fun t305 => (some (t304 == t305))) = some r := H
         have A24 := a_ A240
         clear A240
         replace H := Option.bind_eq_some_iff.mp H
         obtain ⟨t305, A250, H⟩ := H
         replace H : (some (t304 == t305)) = some r := H
         have A25 := a_ A250
         clear A250
         obtain rfl := Option.some.inj H
         have hcz26_0 : wc.cell? ⟨gb276, 0, none⟩ = some (.string a0_0) := (blk_cell BK276.out 0).trans rfl
         have hcz26_1 : wc.cell? ⟨gb276, 1, none⟩ = some (.string a0_1) := (blk_cell BK276.out 1).trans rfl
         have hcz26_2 : wc.cell? ⟨gb276, 2, none⟩ = some (.int .u64 a0_2) := (blk_cell BK276.out 2).trans rfl
         have hcz26_3 : wc.cell? ⟨gb276, 3, none⟩ = some (.int .i64 a0_3) := (blk_cell BK276.out 3).trans rfl
         have hcz26_4 : wc.cell? ⟨gb276, 4, none⟩ = some (.slice A0_4 l0_4.length c0_4) := (blk_cell BK276.out 4).trans rfl
         have hcz26_5 : wc.cell? ⟨gb276, 5, none⟩ = some (.int .i64 a0_5) := (blk_cell BK276.out 5).trans rfl
         have hfz26_0 := blk_frozen BK276.out 0
         have hfz26_1 := blk_frozen BK276.out 1
         have hfz26_2 := blk_frozen BK276.out 2
         have hfz26_3 := blk_frozen BK276.out 3
         have hfz26_4 := blk_frozen BK276.out 4
         have hfz26_5 := blk_frozen BK276.out 5
         try go_wp2_with (first | ((with_reducible refine gate_callee (f := 6) rfl ?_); refine goesL_ (some 27) rfl rfl Tryz.func6 z85_ rfl #[.agg #[.string a0_0, .string a0_1, .int .u64 a0_2, .int .i64 a0_3, .slice A0_4 l0_4.length c0_4, .int .i64 a0_5]] rfl z31_ ?_; (with_reducible refine (slip_Text.calls kj3 a0_0 a0_1 a0_2 a0_3 _ _ l0_4 a0_5 t279 t280 _ ?side1 ?side2 ?side3 A14.out).mono ?_); (case side1 => exact Glob.below HG.out z42_); (case side2 => repeat (first | exact (Kd.C_below HR0_4.out HB.out) | (with_reducible refine Kd.C_alloc ?_ _) | (with_reducible refine Kd.C_drewN ?_ _) | (with_reducible refine Kd.C_drew ?_))); (case side3 => exact HC0_4.out); rintro e w27 ⟨rfl, hb⟩; refine ⟨_, rfl, ?_⟩; have n0_ := a_ (blk_below (g := gb276) (o := .cells #[.string a0_0, .string a0_1, .int .u64 a0_2, .int .i64 a0_3, .slice A0_4 l0_4.length c0_4, .int .i64 a0_5] 25 (0, 0)) z74_ hb); have n1_ := a_ (below_step z42_ hb); clear BK276; clear HB; have BK276 := n0_; have HB := n1_; clear n0_ n1_; (try clear hb); (try clear hb2); (try clear hk); (try clear hi); have hcz28_0 : w27.cell? ⟨gb276, 0, none⟩ = some (.string a0_0) := (blk_cell BK276.out 0).trans rfl; have hcz28_1 : w27.cell? ⟨gb276, 1, none⟩ = some (.string a0_1) := (blk_cell BK276.out 1).trans rfl; have hcz28_2 : w27.cell? ⟨gb276, 2, none⟩ = some (.int .u64 a0_2) := (blk_cell BK276.out 2).trans rfl; have hcz28_3 : w27.cell? ⟨gb276, 3, none⟩ = some (.int .i64 a0_3) := (blk_cell BK276.out 3).trans rfl; have hcz28_4 : w27.cell? ⟨gb276, 4, none⟩ = some (.slice A0_4 l0_4.length c0_4) := (blk_cell BK276.out 4).trans rfl; have hcz28_5 : w27.cell? ⟨gb276, 5, none⟩ = some (.int .i64 a0_5) := (blk_cell BK276.out 5).trans rfl; have hfz28_0 := blk_frozen BK276.out 0; have hfz28_1 := blk_frozen BK276.out 1; have hfz28_2 := blk_frozen BK276.out 2; have hfz28_3 := blk_frozen BK276.out 3; have hfz28_4 := blk_frozen BK276.out 4; have hfz28_5 := blk_frozen BK276.out 5) | ((with_reducible refine gate_callee (f := 7) rfl ?_); refine goesL_ (some 32) rfl rfl Tryz.func7 z85_ rfl #[.agg #[.string a0_0, .string a0_1, .int .u64 a0_2, .int .i64 a0_3, .slice A0_4 l0_4.length c0_4, .int .i64 a0_5]] rfl z31_ ?_; (with_reducible refine (cambistref19_Text.calls kj3 a0_0 a0_1 a0_2 a0_3 _ _ l0_4 a0_5 t281 t282 _ ?side1 ?side2 ?side3 A15.out).mono ?_); (case side1 => exact Glob.below HG.out z42_); (case side2 => repeat (first | exact (Kd.C_below HR0_4.out HB.out) | (with_reducible refine Kd.C_alloc ?_ _) | (with_reducible refine Kd.C_drewN ?_ _) | (with_reducible refine Kd.C_drew ?_))); (case side3 => exact HC0_4.out); rintro e w29 ⟨rfl, hb⟩; refine ⟨_, rfl, ?_⟩; have n0_ := a_ (blk_below (g := gb276) (o := .cells #[.string a0_0, .string a0_1, .int .u64 a0_2, .int .i64 a0_3, .slice A0_4 l0_4.length c0_4, .int .i64 a0_5] 25 (0, 0)) z74_ hb); have n1_ := a_ (below_step z42_ hb); clear BK276; clear HB; have BK276 := n0_; have HB := n1_; clear n0_ n1_; (try clear hb); (try clear hb2); (try clear hk); (try clear hi)) | ((with_reducible refine gate_callee (f := 8) rfl ?_); refine goesL_ (some 37) rfl rfl Tryz.func8 z85_ rfl #[.string a1] rfl z31_ ?_; (with_reducible refine (slip_Parse.calls kj3 a1 t283 t284 t285 t286 t287 t290 t291 _ ?side1 A16.out).mono ?_); (case side1 => exact Glob.below HG.out z42_); rintro e w30 ⟨v288, rfl, ho0, hb⟩; refine ⟨_, rfl, ?_⟩; have n0_ := a_ (Kd.R_lower ho0 (below_size z42_)); have n1_ := a_ (blk_below (g := gb276) (o := .cells #[.string a0_0, .string a0_1, .int .u64 a0_2, .int .i64 a0_3, .slice A0_4 l0_4.length c0_4, .int .i64 a0_5] 25 (0, 0)) z74_ hb); have n2_ := a_ (below_step z42_ hb); clear BK276; clear HB; have HO289 := n0_; have BK276 := n1_; have HB := n2_; clear n0_ n1_ n2_; (try clear hb); (try clear hb2); (try clear hk); (try clear hi); (try clear ho0)) | ((with_reducible refine gate_dst (N := 10) rfl ?_); (try (refine gate_guard (by rfl) ?_; dsimp only)); refine box_event ?hg (N := 10) ?hd (cs := #[.string (⟨#[]⟩ : ByteArray), .string (⟨#[]⟩ : ByteArray), .int .u64 0, .int .i64 0, .slice none 0 0, .int .i64 0]) (t := 25) ?hr ?_; (case hd => rfl); (case hg => rfl); (case hr => first | (go_simp; done) | (go_simp; rfl)); intro gb292 hg w31 hbox hb; have n0_ := a_ (Kd.R_below z51_ hb); have n1_ := a_ (blk_below (g := gb276) (o := .cells #[.string a0_0, .string a0_1, .int .u64 a0_2, .int .i64 a0_3, .slice A0_4 l0_4.length c0_4, .int .i64 a0_5] 25 (0, 0)) z74_ hb); have n2_ := a_ (below_step z42_ hb); have n3_ := a_ (hbox); have n4_ := a_ ((by rw [hg]; exact (below_size z42_) : w.heap.size ≤ gb292)); have n5_ := a_ ((by rw [hg]; exact (below_size z42_) : w.heap.size ≤ gb292)); have n6_ := a_ ((by rw [hg]; exact Nat.ne_of_lt (blk_lt (g := gb276) (o := .cells #[.string a0_0, .string a0_1, .int .u64 a0_2, .int .i64 a0_3, .slice A0_4 l0_4.length c0_4, .int .i64 a0_5] 25 (0, 0)) z74_) : gb276 ≠ gb292)); have n7_ := a_ ((by rw [hg]; exact Nat.ne_of_gt (blk_lt (g := gb276) (o := .cells #[.string a0_0, .string a0_1, .int .u64 a0_2, .int .i64 a0_3, .slice A0_4 l0_4.length c0_4, .int .i64 a0_5] 25 (0, 0)) z74_) : gb292 ≠ gb276)); clear HO289; clear BK276; clear HB; have HO289 := n0_; have BK276 := n1_; have HB := n2_; have BK292 := n3_; have GW292 := n4_; have GE292 := n5_; have NB276_292 := n6_; have NB292_276 := n7_; clear n0_ n1_ n2_ n3_ n4_ n5_ n6_ n7_; clear hb hbox hg; have hnb32 := NB292_276.out; have hnc32 := NB276_292.out; have hcz33_0 : w31.cell? ⟨gb292, 0, none⟩ = some (.string (⟨#[]⟩ : ByteArray)) := (blk_cell BK292.out 0).trans rfl; have hcz33_1 : w31.cell? ⟨gb292, 1, none⟩ = some (.string (⟨#[]⟩ : ByteArray)) := (blk_cell BK292.out 1).trans rfl; have hcz33_2 : w31.cell? ⟨gb292, 2, none⟩ = some (.int .u64 0) := (blk_cell BK292.out 2).trans rfl; have hcz33_3 : w31.cell? ⟨gb292, 3, none⟩ = some (.int .i64 0) := (blk_cell BK292.out 3).trans rfl; have hcz33_4 : w31.cell? ⟨gb292, 4, none⟩ = some (.slice none 0 0) := (blk_cell BK292.out 4).trans rfl; have hcz33_5 : w31.cell? ⟨gb292, 5, none⟩ = some (.int .i64 0) := (blk_cell BK292.out 5).trans rfl; have hfz33_0 := blk_frozen BK292.out 0; have hfz33_1 := blk_frozen BK292.out 1; have hfz33_2 := blk_frozen BK292.out 2; have hfz33_3 := blk_frozen BK292.out 3; have hfz33_4 := blk_frozen BK292.out 4; have hfz33_5 := blk_frozen BK292.out 5; obtain ⟨Ao34, co34, eo34⟩ := Kd.R_slice HO289.out; subst eo34) | ((with_reducible refine gate_callee (f := 9) rfl ?_); refine goesL_ (some 42) rfl rfl Tryz.func9 z85_ rfl #[.string a1] rfl z31_ ?_; (with_reducible refine (cambistref19_Parse.calls kj3 a1 t293 t294 t295 t296 t297 t300 t301 _ ?side1 A17.out).mono ?_); (case side1 => exact Glob.below HG.out z25_); rintro e w35 ⟨v298, rfl, ho0, hb⟩; refine ⟨_, rfl, ?_⟩; have n0_ := a_ (Kd.R_elder' (by (with_reducible repeat (first | apply Kd.R_alloc | apply Kd.R_drewN | apply Kd.R_drew)); exact (Kd.R_mono (Kd.R_far (p := ⟨gb292, 5, none⟩) (Kd.R_far (p := ⟨gb292, 4, none⟩) (Kd.R_far (p := ⟨gb292, 3, none⟩) (Kd.R_far (p := ⟨gb292, 2, none⟩) (Kd.R_far (p := ⟨gb292, 1, none⟩) (Kd.R_far (p := ⟨gb292, 0, none⟩) (Kd.R_types HO289.out BK292.out (by decide)) (fun _ hk => hk.2) (.string t283)) (fun _ hk => hk.2) (.string t284)) (fun _ hk => hk.2) (.int .u64 t285)) (fun _ hk => hk.2) (.int .i64 t286)) (fun _ hk => hk.2) (.slice Ao34 t287.length co34)) (fun _ hk => hk.2) (.int .i64 t290)) (fun _ h_ => h_.1))) (Kd.R_base ho0) hb); have n1_ := a_ (Kd.R_lower (Kd.R_new' ho0 (Kd.R_lt (by (with_reducible repeat (first | apply Kd.R_alloc | apply Kd.R_drewN | apply Kd.R_drew)); exact (Kd.R_mono (Kd.R_far (p := ⟨gb292, 5, none⟩) (Kd.R_far (p := ⟨gb292, 4, none⟩) (Kd.R_far (p := ⟨gb292, 3, none⟩) (Kd.R_far (p := ⟨gb292, 2, none⟩) (Kd.R_far (p := ⟨gb292, 1, none⟩) (Kd.R_far (p := ⟨gb292, 0, none⟩) (Kd.R_types HO289.out BK292.out (by decide)) (fun _ hk => hk.2) (.string t283)) (fun _ hk => hk.2) (.string t284)) (fun _ hk => hk.2) (.int .u64 t285)) (fun _ hk => hk.2) (.int .i64 t286)) (fun _ hk => hk.2) (.slice Ao34 t287.length co34)) (fun _ hk => hk.2) (.int .i64 t290)) (fun _ h_ => h_.1))))) (below_size z25_)); have n2_ := a_ (blk_below (g := gb276) (o := .cells #[.string a0_0, .string a0_1, .int .u64 a0_2, .int .i64 a0_3, .slice A0_4 l0_4.length c0_4, .int .i64 a0_5] 25 (0, 0)) (by (with_reducible repeat (first | refine kN_ ?_ _ | refine kD_ ?_ | refine kA_ ?_ _)); refine blk_far ?_ NB276_292.out _; (with_reducible repeat (first | refine kN_ ?_ _ | refine kD_ ?_ | refine kA_ ?_ _)); refine blk_far ?_ NB276_292.out _; (with_reducible repeat (first | refine kN_ ?_ _ | refine kD_ ?_ | refine kA_ ?_ _)); refine blk_far ?_ NB276_292.out _; (with_reducible repeat (first | refine kN_ ?_ _ | refine kD_ ?_ | refine kA_ ?_ _)); refine blk_far ?_ NB276_292.out _; (with_reducible repeat (first | refine kN_ ?_ _ | refine kD_ ?_ | refine kA_ ?_ _)); refine blk_far ?_ NB276_292.out _; (with_reducible repeat (first | refine kN_ ?_ _ | refine kD_ ?_ | refine kA_ ?_ _)); refine blk_far ?_ NB276_292.out _; (with_reducible repeat (first | refine kN_ ?_ _ | refine kD_ ?_ | refine kA_ ?_ _)); exact BK276.out) hb); have n3_ := a_ (blk_below (g := gb292) (o := .cells #[.string t283, .string t284, .int .u64 t285, .int .i64 t286, .slice Ao34 t287.length co34, .int .i64 t290] 25 (0, 0)) (by (with_reducible repeat (first | refine kN_ ?_ _ | refine kD_ ?_ | refine kA_ ?_ _)); refine blk_put (cs := #[.string t283, .string t284, .int .u64 t285, .int .i64 t286, .slice Ao34 t287.length co34, .int .i64 0]) ?_ 5 _ rfl; (with_reducible repeat (first | refine kN_ ?_ _ | refine kD_ ?_ | refine kA_ ?_ _)); refine blk_put (cs := #[.string t283, .string t284, .int .u64 t285, .int .i64 t286, .slice none 0 0, .int .i64 0]) ?_ 4 _ rfl; (with_reducible repeat (first | refine kN_ ?_ _ | refine kD_ ?_ | refine kA_ ?_ _)); refine blk_put (cs := #[.string t283, .string t284, .int .u64 t285, .int .i64 0, .slice none 0 0, .int .i64 0]) ?_ 3 _ rfl; (with_reducible repeat (first | refine kN_ ?_ _ | refine kD_ ?_ | refine kA_ ?_ _)); refine blk_put (cs := #[.string t283, .string t284, .int .u64 0, .int .i64 0, .slice none 0 0, .int .i64 0]) ?_ 2 _ rfl; (with_reducible repeat (first | refine kN_ ?_ _ | refine kD_ ?_ | refine kA_ ?_ _)); refine blk_put (cs := #[.string t283, .string (⟨#[]⟩ : ByteArray), .int .u64 0, .int .i64 0, .slice none 0 0, .int .i64 0]) ?_ 1 _ rfl; (with_reducible repeat (first | refine kN_ ?_ _ | refine kD_ ?_ | refine kA_ ?_ _)); refine blk_put (cs := #[.string (⟨#[]⟩ : ByteArray), .string (⟨#[]⟩ : ByteArray), .int .u64 0, .int .i64 0, .slice none 0 0, .int .i64 0]) ?_ 0 _ rfl; (with_reducible repeat (first | refine kN_ ?_ _ | refine kD_ ?_ | refine kA_ ?_ _)); exact BK292.out) hb); have n4_ := a_ (below_step z25_ hb); clear HO289; clear BK276; clear BK292; clear HB; have HO289 := n0_; have HO299 := n1_; have BK276 := n2_; have BK292 := n3_; have HB := n4_; clear n0_ n1_ n2_ n3_ n4_; (try clear hb); (try clear hb2); (try clear hk); (try clear hi); (try clear ho0)) | ((with_reducible refine gate_dst (N := 12) rfl ?_); (try (refine gate_guard (by rfl) ?_; dsimp only)); refine box_event ?hg (N := 12) ?hd (cs := #[.string (⟨#[]⟩ : ByteArray), .string (⟨#[]⟩ : ByteArray), .int .u64 0, .int .i64 0, .slice none 0 0, .int .i64 0]) (t := 25) ?hr ?_; (case hd => rfl); (case hg => rfl); (case hr => first | (go_simp; done) | (go_simp; rfl)); intro gb302 hg w36 hbox hb; have n0_ := a_ (Kd.R_below z51_ hb); have n1_ := a_ (Kd.R_below z52_ hb); have n2_ := a_ (blk_below (g := gb276) (o := .cells #[.string a0_0, .string a0_1, .int .u64 a0_2, .int .i64 a0_3, .slice A0_4 l0_4.length c0_4, .int .i64 a0_5] 25 (0, 0)) z74_ hb); have n3_ := a_ (blk_below (g := gb292) (o := .cells #[.string t283, .string t284, .int .u64 t285, .int .i64 t286, .slice Ao34 t287.length co34, .int .i64 t290] 25 (0, 0)) z75_ hb); have n4_ := a_ (below_step z25_ hb); have n5_ := a_ (hbox); have n6_ := a_ ((by rw [hg]; exact (below_size z25_) : w.heap.size ≤ gb302)); have n7_ := a_ ((by rw [hg]; exact (below_size z25_) : w.heap.size ≤ gb302)); have n8_ := a_ ((by rw [hg]; exact Nat.ne_of_lt (blk_lt (g := gb276) (o := .cells #[.string a0_0, .string a0_1, .int .u64 a0_2, .int .i64 a0_3, .slice A0_4 l0_4.length c0_4, .int .i64 a0_5] 25 (0, 0)) z74_) : gb276 ≠ gb302)); have n9_ := a_ ((by rw [hg]; exact Nat.ne_of_gt (blk_lt (g := gb276) (o := .cells #[.string a0_0, .string a0_1, .int .u64 a0_2, .int .i64 a0_3, .slice A0_4 l0_4.length c0_4, .int .i64 a0_5] 25 (0, 0)) z74_) : gb302 ≠ gb276)); have n10_ := a_ ((by rw [hg]; exact Nat.ne_of_lt (blk_lt (g := gb292) (o := .cells #[.string t283, .string t284, .int .u64 t285, .int .i64 t286, .slice Ao34 t287.length co34, .int .i64 t290] 25 (0, 0)) z75_) : gb292 ≠ gb302)); have n11_ := a_ ((by rw [hg]; exact Nat.ne_of_gt (blk_lt (g := gb292) (o := .cells #[.string t283, .string t284, .int .u64 t285, .int .i64 t286, .slice Ao34 t287.length co34, .int .i64 t290] 25 (0, 0)) z75_) : gb302 ≠ gb292)); clear HO289; clear HO299; clear BK276; clear BK292; clear HB; have HO289 := n0_; have HO299 := n1_; have BK276 := n2_; have BK292 := n3_; have HB := n4_; have BK302 := n5_; have GW302 := n6_; have GE302 := n7_; have NB276_302 := n8_; have NB302_276 := n9_; have NB292_302 := n10_; have NB302_292 := n11_; clear n0_ n1_ n2_ n3_ n4_ n5_ n6_ n7_ n8_ n9_ n10_ n11_; clear hb hbox hg; have hnb37 := NB302_276.out; have hnc37 := NB276_302.out; have hnb38 := NB302_292.out; have hnc38 := NB292_302.out; have hcz39_0 : w36.cell? ⟨gb302, 0, none⟩ = some (.string (⟨#[]⟩ : ByteArray)) := (blk_cell BK302.out 0).trans rfl; have hcz39_1 : w36.cell? ⟨gb302, 1, none⟩ = some (.string (⟨#[]⟩ : ByteArray)) := (blk_cell BK302.out 1).trans rfl; have hcz39_2 : w36.cell? ⟨gb302, 2, none⟩ = some (.int .u64 0) := (blk_cell BK302.out 2).trans rfl; have hcz39_3 : w36.cell? ⟨gb302, 3, none⟩ = some (.int .i64 0) := (blk_cell BK302.out 3).trans rfl; have hcz39_4 : w36.cell? ⟨gb302, 4, none⟩ = some (.slice none 0 0) := (blk_cell BK302.out 4).trans rfl; have hcz39_5 : w36.cell? ⟨gb302, 5, none⟩ = some (.int .i64 0) := (blk_cell BK302.out 5).trans rfl; have hfz39_0 := blk_frozen BK302.out 0; have hfz39_1 := blk_frozen BK302.out 1; have hfz39_2 := blk_frozen BK302.out 2; have hfz39_3 := blk_frozen BK302.out 3; have hfz39_4 := blk_frozen BK302.out 4; have hfz39_5 := blk_frozen BK302.out 5; obtain ⟨Ao40, co40, eo40⟩ := Kd.R_slice HO299.out; subst eo40; have hcz41_0 : w36.cell? ⟨gb292, 0, none⟩ = some (.string t283) := (blk_cell BK292.out 0).trans rfl; have hcz41_1 : w36.cell? ⟨gb292, 1, none⟩ = some (.string t284) := (blk_cell BK292.out 1).trans rfl; have hcz41_2 : w36.cell? ⟨gb292, 2, none⟩ = some (.int .u64 t285) := (blk_cell BK292.out 2).trans rfl; have hcz41_3 : w36.cell? ⟨gb292, 3, none⟩ = some (.int .i64 t286) := (blk_cell BK292.out 3).trans rfl; have hcz41_4 : w36.cell? ⟨gb292, 4, none⟩ = some (.slice Ao34 t287.length co34) := (blk_cell BK292.out 4).trans rfl; have hcz41_5 : w36.cell? ⟨gb292, 5, none⟩ = some (.int .i64 t290) := (blk_cell BK292.out 5).trans rfl; have hfz41_0 := blk_frozen BK292.out 0; have hfz41_1 := blk_frozen BK292.out 1; have hfz41_2 := blk_frozen BK292.out 2; have hfz41_3 := blk_frozen BK292.out 3; have hfz41_4 := blk_frozen BK292.out 4; have hfz41_5 := blk_frozen BK292.out 5) | ((with_reducible refine gate_callee (f := 10) rfl ?_); refine goesL_ (some 47) rfl rfl Tryz.func10 z85_ rfl #[.agg #[.string t283, .string t284, .int .u64 t285, .int .i64 t286, .slice Ao34 t287.length co34, .int .i64 t290], .agg #[.string t293, .string t294, .int .u64 t295, .int .i64 t296, .slice Ao40 t297.length co40, .int .i64 t300]] rfl z31_ ?_; (with_reducible refine (cambistref19_Same.calls kj3 t283 t284 t285 t286 _ _ t287 t290 t293 t294 t295 t296 _ _ t297 t300 true _ ?side1 ?side2 ?side3 ?side4 ?side5 A18.out).mono ?_); (case side1 => exact Glob.below HG.out z14_); (case side2 => refine (Kd.R_reads' (e := 37) (base := w.heap.size) (ok := fun k_ => (True ∧ some k_ ≠ (.slice Ao40 t297.length co40 : Value).ownBlock)) (n := t287.length) (c := co34) ?_).2.2; exact (by (with_reducible repeat (first | apply Kd.R_alloc | apply Kd.R_drewN | apply Kd.R_drew)); exact (Kd.R_mono (Kd.R_far (p := ⟨gb302, 5, none⟩) (Kd.R_far (p := ⟨gb302, 4, none⟩) (Kd.R_far (p := ⟨gb302, 3, none⟩) (Kd.R_far (p := ⟨gb302, 2, none⟩) (Kd.R_far (p := ⟨gb302, 1, none⟩) (Kd.R_far (p := ⟨gb302, 0, none⟩) (Kd.R_types HO289.out BK302.out (by decide)) (fun _ hk => hk.2) (.string t293)) (fun _ hk => hk.2) (.string t294)) (fun _ hk => hk.2) (.int .u64 t295)) (fun _ hk => hk.2) (.int .i64 t296)) (fun _ hk => hk.2) (.slice Ao40 t297.length co40)) (fun _ hk => hk.2) (.int .i64 t300)) (fun _ h_ => h_.1)))); (case side3 => exact (Kd.R_reads' HO289.out).2.1); (case side4 => refine (Kd.R_reads' (e := 37) (base := w.heap.size) (ok := fun k_ => (True ∧ some k_ ≠ (.slice Ao34 t287.length co34 : Value).ownBlock)) (n := t297.length) (c := co40) ?_).2.2; exact (by (with_reducible repeat (first | apply Kd.R_alloc | apply Kd.R_drewN | apply Kd.R_drew)); exact (Kd.R_mono (Kd.R_far (p := ⟨gb302, 5, none⟩) (Kd.R_far (p := ⟨gb302, 4, none⟩) (Kd.R_far (p := ⟨gb302, 3, none⟩) (Kd.R_far (p := ⟨gb302, 2, none⟩) (Kd.R_far (p := ⟨gb302, 1, none⟩) (Kd.R_far (p := ⟨gb302, 0, none⟩) (Kd.R_types HO299.out BK302.out (by decide)) (fun _ hk => hk.2) (.string t293)) (fun _ hk => hk.2) (.string t294)) (fun _ hk => hk.2) (.int .u64 t295)) (fun _ hk => hk.2) (.int .i64 t296)) (fun _ hk => hk.2) (.slice Ao40 t297.length co40)) (fun _ hk => hk.2) (.int .i64 t300)) (fun _ h_ => h_.1)))); (case side5 => exact (Kd.R_reads' HO299.out).2.1); rintro e w42 ⟨rfl, hb⟩; refine ⟨_, rfl, ?_⟩; have n0_ := a_ (Kd.R_below (by (with_reducible repeat (first | apply Kd.R_alloc | apply Kd.R_drewN | apply Kd.R_drew)); exact (Kd.R_mono (Kd.R_far (p := ⟨gb302, 5, none⟩) (Kd.R_far (p := ⟨gb302, 4, none⟩) (Kd.R_far (p := ⟨gb302, 3, none⟩) (Kd.R_far (p := ⟨gb302, 2, none⟩) (Kd.R_far (p := ⟨gb302, 1, none⟩) (Kd.R_far (p := ⟨gb302, 0, none⟩) (Kd.R_types HO289.out BK302.out (by decide)) (fun _ hk => hk.2) (.string t293)) (fun _ hk => hk.2) (.string t294)) (fun _ hk => hk.2) (.int .u64 t295)) (fun _ hk => hk.2) (.int .i64 t296)) (fun _ hk => hk.2) (.slice Ao40 t297.length co40)) (fun _ hk => hk.2) (.int .i64 t300)) (fun _ h_ => h_.1))) hb); have n1_ := a_ (Kd.R_below (by (with_reducible repeat (first | apply Kd.R_alloc | apply Kd.R_drewN | apply Kd.R_drew)); exact (Kd.R_mono (Kd.R_far (p := ⟨gb302, 5, none⟩) (Kd.R_far (p := ⟨gb302, 4, none⟩) (Kd.R_far (p := ⟨gb302, 3, none⟩) (Kd.R_far (p := ⟨gb302, 2, none⟩) (Kd.R_far (p := ⟨gb302, 1, none⟩) (Kd.R_far (p := ⟨gb302, 0, none⟩) (Kd.R_types HO299.out BK302.out (by decide)) (fun _ hk => hk.2) (.string t293)) (fun _ hk => hk.2) (.string t294)) (fun _ hk => hk.2) (.int .u64 t295)) (fun _ hk => hk.2) (.int .i64 t296)) (fun _ hk => hk.2) (.slice Ao40 t297.length co40)) (fun _ hk => hk.2) (.int .i64 t300)) (fun _ h_ => h_.1))) hb); have n2_ := a_ (blk_below (g := gb276) (o := .cells #[.string a0_0, .string a0_1, .int .u64 a0_2, .int .i64 a0_3, .slice A0_4 l0_4.length c0_4, .int .i64 a0_5] 25 (0, 0)) (by (with_reducible repeat (first | refine kN_ ?_ _ | refine kD_ ?_ | refine kA_ ?_ _)); refine blk_far ?_ NB276_302.out _; (with_reducible repeat (first | refine kN_ ?_ _ | refine kD_ ?_ | refine kA_ ?_ _)); refine blk_far ?_ NB276_302.out _; (with_reducible repeat (first | refine kN_ ?_ _ | refine kD_ ?_ | refine kA_ ?_ _)); refine blk_far ?_ NB276_302.out _; (with_reducible repeat (first | refine kN_ ?_ _ | refine kD_ ?_ | refine kA_ ?_ _)); refine blk_far ?_ NB276_302.out _; (with_reducible repeat (first | refine kN_ ?_ _ | refine kD_ ?_ | refine kA_ ?_ _)); refine blk_far ?_ NB276_302.out _; (with_reducible repeat (first | refine kN_ ?_ _ | refine kD_ ?_ | refine kA_ ?_ _)); refine blk_far ?_ NB276_302.out _; (with_reducible repeat (first | refine kN_ ?_ _ | refine kD_ ?_ | refine kA_ ?_ _)); exact BK276.out) hb); have n3_ := a_ (blk_below (g := gb292) (o := .cells #[.string t283, .string t284, .int .u64 t285, .int .i64 t286, .slice Ao34 t287.length co34, .int .i64 t290] 25 (0, 0)) (by (with_reducible repeat (first | refine kN_ ?_ _ | refine kD_ ?_ | refine kA_ ?_ _)); refine blk_far ?_ NB292_302.out _; (with_reducible repeat (first | refine kN_ ?_ _ | refine kD_ ?_ | refine kA_ ?_ _)); refine blk_far ?_ NB292_302.out _; (with_reducible repeat (first | refine kN_ ?_ _ | refine kD_ ?_ | refine kA_ ?_ _)); refine blk_far ?_ NB292_302.out _; (with_reducible repeat (first | refine kN_ ?_ _ | refine kD_ ?_ | refine kA_ ?_ _)); refine blk_far ?_ NB292_302.out _; (with_reducible repeat (first | refine kN_ ?_ _ | refine kD_ ?_ | refine kA_ ?_ _)); refine blk_far ?_ NB292_302.out _; (with_reducible repeat (first | refine kN_ ?_ _ | refine kD_ ?_ | refine kA_ ?_ _)); refine blk_far ?_ NB292_302.out _; (with_reducible repeat (first | refine kN_ ?_ _ | refine kD_ ?_ | refine kA_ ?_ _)); exact BK292.out) hb); have n4_ := a_ (blk_below (g := gb302) (o := .cells #[.string t293, .string t294, .int .u64 t295, .int .i64 t296, .slice Ao40 t297.length co40, .int .i64 t300] 25 (0, 0)) (by (with_reducible repeat (first | refine kN_ ?_ _ | refine kD_ ?_ | refine kA_ ?_ _)); refine blk_put (cs := #[.string t293, .string t294, .int .u64 t295, .int .i64 t296, .slice Ao40 t297.length co40, .int .i64 0]) ?_ 5 _ rfl; (with_reducible repeat (first | refine kN_ ?_ _ | refine kD_ ?_ | refine kA_ ?_ _)); refine blk_put (cs := #[.string t293, .string t294, .int .u64 t295, .int .i64 t296, .slice none 0 0, .int .i64 0]) ?_ 4 _ rfl; (with_reducible repeat (first | refine kN_ ?_ _ | refine kD_ ?_ | refine kA_ ?_ _)); refine blk_put (cs := #[.string t293, .string t294, .int .u64 t295, .int .i64 0, .slice none 0 0, .int .i64 0]) ?_ 3 _ rfl; (with_reducible repeat (first | refine kN_ ?_ _ | refine kD_ ?_ | refine kA_ ?_ _)); refine blk_put (cs := #[.string t293, .string t294, .int .u64 0, .int .i64 0, .slice none 0 0, .int .i64 0]) ?_ 2 _ rfl; (with_reducible repeat (first | refine kN_ ?_ _ | refine kD_ ?_ | refine kA_ ?_ _)); refine blk_put (cs := #[.string t293, .string (⟨#[]⟩ : ByteArray), .int .u64 0, .int .i64 0, .slice none 0 0, .int .i64 0]) ?_ 1 _ rfl; (with_reducible repeat (first | refine kN_ ?_ _ | refine kD_ ?_ | refine kA_ ?_ _)); refine blk_put (cs := #[.string (⟨#[]⟩ : ByteArray), .string (⟨#[]⟩ : ByteArray), .int .u64 0, .int .i64 0, .slice none 0 0, .int .i64 0]) ?_ 0 _ rfl; (with_reducible repeat (first | refine kN_ ?_ _ | refine kD_ ?_ | refine kA_ ?_ _)); exact BK302.out) hb); have n5_ := a_ (below_step z14_ hb); clear HO289; clear HO299; clear BK276; clear BK292; clear BK302; clear HB; have HO289 := n0_; have HO299 := n1_; have BK276 := n2_; have BK292 := n3_; have BK302 := n4_; have HB := n5_; clear n0_ n1_ n2_ n3_ n4_ n5_; (try clear hb); (try clear hb2); (try clear hk); (try clear hi)))
         have n0_ := a_ (Kd.R_drew HO289.out)
         have n1_ := a_ (Kd.R_drew HO299.out)
         have n2_ := a_ (blk_drew BK276.out)
         have n3_ := a_ (blk_drew BK292.out)
         have n4_ := a_ (blk_drew BK302.out)
         have n5_ := a_ (below_drew1 HB.out)
         clear HO289
         clear HO299
         clear BK276
         clear BK292
         clear BK302
         clear HB
         have HO289 := n0_
         have HO299 := n1_
         have BK276 := n2_
         have BK292 := n3_
         have BK302 := n4_
         have HB := n5_
         clear n0_ n1_ n2_ n3_ n4_ n5_
         refine start_ (n := 27) (S := fun w' => w'.cell? ⟨gb276, 0, none⟩ = some (.string a0_0) ∧ w'.cell? ⟨gb276, 1, none⟩ = some (.string a0_1) ∧ w'.cell? ⟨gb276, 2, none⟩ = some (.int .u64 a0_2) ∧ w'.cell? ⟨gb276, 3, none⟩ = some (.int .i64 a0_3) ∧ w'.cell? ⟨gb276, 4, none⟩ = some (.slice A0_4 l0_4.length c0_4) ∧ w'.cell? ⟨gb276, 5, none⟩ = some (.int .i64 a0_5)) (ds := []) #[false, false, false, false, false, false, false, false, false, false, false, false, false, false, false, false, false, false, false, false, false, false, false, false, false, false, false] z85_ rfl rfl ⟨(blk_cell BK276.out 0).trans rfl, (blk_cell BK276.out 1).trans rfl, (blk_cell BK276.out 2).trans rfl, (blk_cell BK276.out 3).trans rfl, (blk_cell BK276.out 4).trans rfl, (blk_cell BK276.out 5).trans rfl⟩ (fun hHeld => ?_); refine with_tabW cambistlaw19_SlipTexts.tab9 cambistlaw19_SlipTexts.bits9 (fun HT_ HW_ => ?_)
         generalize w42.drew = w43 at HO289 HO299 BK276 BK292 BK302 HB hHeld ⊢
         refine pure_ (i := 0) (N := some 48) (v := ?_) (a' := ?_) (fl_ 27 1) rfl rfl (any_of HT_.out z85_) (fun _ _ _ h => h) (Or.inl ⟨by rfl, ?_⟩) ?_ ?_
         rotate_left
         ·intro w'
          go_simp
          with_reducible rfl
         rotate_left
         ·simp only [Act.put, sT_, s0_, sS_, i64_w, i32_w]
          rfl
         refine pure_ (i := 1) (N := some 49) (v := ?_) (a' := ?_) (fl_ 27 3) rfl rfl (any_of HT_.out z85_) (fun _ _ _ h => h) (Or.inl ⟨by rfl, ?_⟩) ?_ ?_
         rotate_left
         ·intro w'
          go_simp
          with_reducible rfl
         rotate_left
         ·simp only [Act.put, sT_, s0_, sS_, i64_w, i32_w]
          rfl
         refine pure_ (i := 2) (N := some 50) (v := ?_) (a' := ?_) (fl_ 27 7) rfl rfl (any_of HT_.out z85_) (fun _ _ _ h => h) (Or.inl ⟨by rfl, ?_⟩) ?_ ?_
         rotate_left
         ·intro w'
          go_simp
          with_reducible rfl
         rotate_left
         ·simp only [Act.put, sT_, s0_, sS_, i64_w, i32_w]
          rfl
         refine pure_ (i := 3) (N := some 51) (v := ?_) (a' := ?_) (fl_ 27 15) rfl rfl (any_of HT_.out z85_) (fun _ _ _ h => h) (Or.inl ⟨by rfl, ?_⟩) ?_ ?_
         rotate_left
         ·intro w'
          go_simp
          with_reducible rfl
         rotate_left
         ·simp only [Act.put, sT_, s0_, sS_, i64_w, i32_w]
          rfl
         refine pure_ (i := 4) (N := some 52) (v := ?_) (a' := ?_) (fl_ 27 31) rfl rfl (any_of HT_.out z85_) (fun _ _ _ h => h) (Or.inl ⟨by rfl, ?_⟩) ?_ ?_
         rotate_left
         ·intro w'
          go_simp
          with_reducible rfl
         rotate_left
         ·simp only [Act.put, sT_, s0_, sS_, i64_w, i32_w]
          rfl
         refine pure_ (i := 5) (N := some 53) (v := ?_) (a' := ?_) (fl_ 27 63) rfl rfl (any_of HT_.out z85_) (fun _ _ _ h => h) (Or.inl ⟨by rfl, ?_⟩) ?_ ?_
         rotate_left
         ·intro w'
          go_simp
          with_reducible rfl
         rotate_left
         ·simp only [Act.put, sT_, s0_, sS_, i64_w, i32_w]
          rfl
         refine pure_ (i := 6) (N := some 54) (v := ?_) (a' := ?_) (fl_ 27 127) rfl rfl (any_of HT_.out z85_) (fun _ _ _ h => h) (Or.inl ⟨by rfl, ?_⟩) ?_ ?_
         rotate_left
         ·intro w'
          go_simp
          with_reducible rfl
         rotate_left
         ·simp only [Act.put, sT_, s0_, sS_, i64_w, i32_w]
          rfl
         refine pure_ (i := 7) (N := some 55) (v := ?_) (a' := ?_) (fl_ 27 255) rfl rfl (any_of HT_.out z85_) (fun _ _ _ h => h) (Or.inl ⟨by rfl, ?_⟩) ?_ ?_
         rotate_left
         ·intro w'
          go_simp
          with_reducible rfl
         rotate_left
         ·simp only [Act.put, sT_, s0_, sS_, i64_w, i32_w]
          rfl
         refine pure_ (i := 8) (N := some 56) (v := ?_) (a' := ?_) (fl_ 27 511) rfl rfl (any_of HT_.out z85_) (fun _ _ _ h => h) (Or.inl ⟨by rfl, ?_⟩) ?_ ?_
         rotate_left
         ·intro w'
          go_simp
          with_reducible rfl
         rotate_left
         ·simp only [Act.put, sT_, s0_, sS_, i64_w, i32_w]
          rfl
         refine pure_ (i := 9) (N := some 57) (v := ?_) (a' := ?_) (fl_ 27 1023) rfl rfl (any_of HT_.out z85_) (fun _ _ _ h => h) (Or.inl ⟨by rfl, ?_⟩) ?_ ?_
         rotate_left
         ·intro w'
          go_simp
          with_reducible rfl
         rotate_left
         ·simp only [Act.put, sT_, s0_, sS_, i64_w, i32_w]
          rfl
         refine pure_ (i := 10) (N := some 58) (v := ?_) (a' := ?_) (fl_ 27 2047) rfl rfl (any_of HT_.out z85_) (fun _ _ _ h => h) (Or.inl ⟨by rfl, ?_⟩) ?_ ?_
         rotate_left
         ·intro w'
          go_simp
          with_reducible rfl
         rotate_left
         ·simp only [Act.put, sT_, s0_, sS_, i64_w, i32_w]
          rfl
         refine pure_ (i := 11) (N := some 59) (v := ?_) (a' := ?_) (fl_ 27 4095) rfl rfl (any_of HT_.out z85_) (fun _ _ _ h => h) (Or.inl ⟨by rfl, ?_⟩) ?_ ?_
         rotate_left
         ·intro w'
          go_simp
          with_reducible rfl
         rotate_left
         ·simp only [Act.put, sT_, s0_, sS_, i64_w, i32_w]
          rfl
         refine pure_ (i := 12) (N := some 60) (v := ?_) (a' := ?_) (fl_ 27 8191) rfl rfl (any_of HT_.out z85_) (fun _ _ _ h => h) (Or.inl ⟨by rfl, ?_⟩) ?_ ?_
         rotate_left
         ·intro w'
          go_simp
          with_reducible rfl
         rotate_left
         ·simp only [Act.put, sT_, s0_, sS_, i64_w, i32_w]
          rfl
         refine pure_ (i := 13) (N := some 61) (v := ?_) (a' := ?_) (fl_ 27 16383) rfl rfl (any_of HT_.out z85_) (fun _ _ _ h => h) (Or.inl ⟨by rfl, ?_⟩) ?_ ?_
         rotate_left
         ·intro w'
          go_simp
          with_reducible rfl
         rotate_left
         ·simp only [Act.put, sT_, s0_, sS_, i64_w, i32_w]
          rfl
         refine pure_ (i := 14) (N := some 62) (v := ?_) (a' := ?_) (fl_ 27 32767) rfl rfl (any_of HT_.out z85_) (fun _ _ _ h => h) (Or.inl ⟨by rfl, ?_⟩) ?_ ?_
         rotate_left
         ·intro w'
          go_simp
          with_reducible rfl
         rotate_left
         ·simp only [Act.put, sT_, s0_, sS_, i64_w, i32_w]
          rfl
         refine pure_ (i := 15) (N := some 63) (v := ?_) (a' := ?_) (fl_ 27 65535) rfl rfl (any_of HT_.out z85_) (fun _ _ _ h => h) (Or.inl ⟨by rfl, ?_⟩) ?_ ?_
         rotate_left
         ·intro w'
          go_simp
          with_reducible rfl
         rotate_left
         ·simp only [Act.put, sT_, s0_, sS_, i64_w, i32_w]
          rfl
         refine pure_ (i := 16) (N := some 64) (v := ?_) (a' := ?_) (fl_ 27 131071) rfl rfl (any_of HT_.out z85_) (fun _ _ _ h => h) (Or.inl ⟨by rfl, ?_⟩) ?_ ?_
         rotate_left
         ·intro w'
          go_simp
          with_reducible rfl
         rotate_left
         ·simp only [Act.put, sT_, s0_, sS_, i64_w, i32_w]
          rfl
         refine pure_ (i := 17) (N := some 65) (v := ?_) (a' := ?_) (fl_ 27 262143) rfl rfl (any_of HT_.out z85_) (fun _ _ _ h => h) (Or.inl ⟨by rfl, ?_⟩) ?_ ?_
         rotate_left
         ·intro w'
          go_simp
          with_reducible rfl
         rotate_left
         ·simp only [Act.put, sT_, s0_, sS_, i64_w, i32_w]
          rfl
         refine pure_ (i := 18) (N := some 66) (v := ?_) (a' := ?_) (fl_ 27 524287) rfl rfl (any_of HT_.out z85_) (fun _ _ _ h => h) (Or.inl ⟨by rfl, ?_⟩) ?_ ?_
         rotate_left
         ·intro w'
          go_simp
          with_reducible rfl
         rotate_left
         ·simp only [Act.put, sT_, s0_, sS_, i64_w, i32_w]
          rfl
         refine pure_ (i := 19) (N := some 67) (v := ?_) (a' := ?_) (fl_ 27 1048575) rfl rfl (any_of HT_.out z85_) (fun _ _ _ h => h) (Or.inl ⟨by rfl, ?_⟩) ?_ ?_
         rotate_left
         ·intro w'
          go_simp
          with_reducible rfl
         rotate_left
         ·simp only [Act.put, sT_, s0_, sS_, i64_w, i32_w]
          rfl
         refine take_ (i := 20) (N := some 68) (v := ?_) (a' := ?_) (fl_ 27 2097151) rfl rfl (take_ofW HT_.out HW_.out z85_) (fun _ _ _ h => h) (Or.inl ⟨by rfl, ?_⟩) hHeld ?_ ?_
         rotate_left
         ·rintro w' ⟨s0, s1, s2, s3, s4, s5⟩
          go_simp
          with_reducible rfl
         rotate_left
         ·simp only [Act.put, sT_, s0_, sS_, i64_w, i32_w]
          rfl
         refine take_ (i := 22) (N := some 70) (v := ?_) (a' := ?_) (fl_ 27 6291455) rfl rfl (take_ofW HT_.out HW_.out z85_) (fun _ _ _ h => h) (Or.inl ⟨by rfl, ?_⟩) hHeld ?_ ?_
         rotate_left
         ·rintro w' ⟨s0, s1, s2, s3, s4, s5⟩
          go_simp
          with_reducible rfl
         rotate_left
         ·simp only [Act.put, sT_, s0_, sS_, i64_w, i32_w]
          rfl
         refine one_ (i := 21) (N := some 69) (fl_ 27 8388607) rfl rfl (one_of HT_.out z85_) (by decide) (fun K hK => ?_)
         refine goes_ Tryz.func11 z85_ rfl #[.agg #[.string a0_0, .string a0_1, .int .u64 a0_2, .int .i64 a0_3, .slice A0_4 l0_4.length c0_4, .int .i64 a0_5]] (by rfl) rfl rfl z31_ ?_
         with_reducible refine (slip_Check.calls kj3 a0_0 a0_1 a0_2 a0_3 _ _ l0_4 a0_5 t304 _ ?side1 ?side2 ?side3 A24.out).mono ?_
         (case side1 => exact Glob.below HG.out z14_)
         (case side2 => repeat (first | exact (Kd.C_below HR0_4.out HB.out) | (with_reducible refine Kd.C_alloc ?_ _) | (with_reducible refine Kd.C_drewN ?_ _) | (with_reducible refine Kd.C_drew ?_)))
         (case side3 => exact HC0_4.out)
         rintro e w44 ⟨rfl, hb⟩
         refine ⟨_, rfl, ?_⟩
         have n0_ := a_ (Kd.R_below z51_ hb)
         have n1_ := a_ (Kd.R_below z52_ hb)
         have n2_ := a_ (blk_below (g := gb276) (o := .cells #[.string a0_0, .string a0_1, .int .u64 a0_2, .int .i64 a0_3, .slice A0_4 l0_4.length c0_4, .int .i64 a0_5] 25 (0, 0)) z74_ hb)
         have n3_ := a_ (blk_below (g := gb292) (o := .cells #[.string t283, .string t284, .int .u64 t285, .int .i64 t286, .slice Ao34 t287.length co34, .int .i64 t290] 25 (0, 0)) z75_ hb)
         have n4_ := a_ (blk_below (g := gb302) (o := .cells #[.string t293, .string t294, .int .u64 t295, .int .i64 t296, .slice Ao40 t297.length co40, .int .i64 t300] 25 (0, 0)) (by (with_reducible repeat (first | refine kN_ ?_ _ | refine kD_ ?_ | refine kA_ ?_ _)); exact BK302.out) hb)
         have n5_ := a_ (below_step z14_ hb)
         clear HO289
         clear HO299
         clear BK276
         clear BK292
         clear BK302
         clear HB
         have HO289 := n0_
         have HO299 := n1_
         have BK276 := n2_
         have BK292 := n3_
         have BK302 := n4_
         have HB := n5_
         clear n0_ n1_ n2_ n3_ n4_ n5_
         (try clear hb)
         (try clear hb2)
         (try clear hk)
         (try clear hi)
         refine hK.out _ _ ⟨(blk_cell BK276.out 0).trans rfl, (blk_cell BK276.out 1).trans rfl, (blk_cell BK276.out 2).trans rfl, (blk_cell BK276.out 3).trans rfl, (blk_cell BK276.out 4).trans rfl, (blk_cell BK276.out 5).trans rfl⟩ (fun hHeld => ?_)
         clear hK K
         refine norm_ (a' := ?_) ?_ ?_
         rotate_left
         ·show Act.put _ (some 69) _ = _
          simp only [Act.put, sT_, s0_, sS_, i64_w, i32_w]
          rfl
         refine one_ (i := 23) (N := some 71) (fl_ 27 16777215) rfl rfl (one_of HT_.out z85_) (by decide) (fun K hK => ?_)
         refine goes_ Tryz.func12 z85_ rfl #[.agg #[.string a0_0, .string a0_1, .int .u64 a0_2, .int .i64 a0_3, .slice A0_4 l0_4.length c0_4, .int .i64 a0_5]] (by rfl) rfl rfl z31_ ?_
         with_reducible refine (cambistref19_Check.calls kj3 a0_0 a0_1 a0_2 a0_3 _ _ l0_4 a0_5 t305 _ ?side1 ?side2 ?side3 A25.out).mono ?_
         (case side1 => exact Glob.below HG.out z14_)
         (case side2 => repeat (first | exact (Kd.C_below HR0_4.out HB.out) | (with_reducible refine Kd.C_alloc ?_ _) | (with_reducible refine Kd.C_drewN ?_ _) | (with_reducible refine Kd.C_drew ?_)))
         (case side3 => exact HC0_4.out)
         rintro e w45 ⟨rfl, hb⟩
         refine ⟨_, rfl, ?_⟩
         have n0_ := a_ (Kd.R_below z51_ hb)
         have n1_ := a_ (Kd.R_below z52_ hb)
         have n2_ := a_ (blk_below (g := gb276) (o := .cells #[.string a0_0, .string a0_1, .int .u64 a0_2, .int .i64 a0_3, .slice A0_4 l0_4.length c0_4, .int .i64 a0_5] 25 (0, 0)) z74_ hb)
         have n3_ := a_ (blk_below (g := gb292) (o := .cells #[.string t283, .string t284, .int .u64 t285, .int .i64 t286, .slice Ao34 t287.length co34, .int .i64 t290] 25 (0, 0)) z75_ hb)
         have n4_ := a_ (blk_below (g := gb302) (o := .cells #[.string t293, .string t294, .int .u64 t295, .int .i64 t296, .slice Ao40 t297.length co40, .int .i64 t300] 25 (0, 0)) (by (with_reducible repeat (first | refine kN_ ?_ _ | refine kD_ ?_ | refine kA_ ?_ _)); exact BK302.out) hb)
         have n5_ := a_ (below_step z14_ hb)
         clear HO289
         clear HO299
         clear BK276
         clear BK292
         clear BK302
         clear HB
         have HO289 := n0_
         have HO299 := n1_
         have BK276 := n2_
         have BK292 := n3_
         have BK302 := n4_
         have HB := n5_
         clear n0_ n1_ n2_ n3_ n4_ n5_
         (try clear hb)
         (try clear hb2)
         (try clear hk)
         (try clear hi)
         refine hK.out _ _ ⟨(blk_cell BK276.out 0).trans rfl, (blk_cell BK276.out 1).trans rfl, (blk_cell BK276.out 2).trans rfl, (blk_cell BK276.out 3).trans rfl, (blk_cell BK276.out 4).trans rfl, (blk_cell BK276.out 5).trans rfl⟩ (fun hHeld => ?_)
         clear hK K
         refine norm_ (a' := ?_) ?_ ?_
         rotate_left
         ·show Act.put _ (some 71) _ = _
          simp only [Act.put, sT_, s0_, sS_, i64_w, i32_w]
          rfl
         refine pure_ (i := 24) (N := some 72) (v := ?_) (a' := ?_) (fl_ 27 33554431) rfl rfl (any_of HT_.out z85_) (fun _ _ _ h => h) (Or.inl ⟨by rfl, ?_⟩) ?_ ?_
         rotate_left
         ·intro w'
          go_simp
          with_reducible rfl
         rotate_left
         ·simp only [Act.put, sT_, s0_, sS_, i64_w, i32_w]
          rfl
         refine pure_ (i := 25) (N := some 73) (v := ?_) (a' := ?_) (fl_ 27 67108863) rfl rfl (any_of HT_.out z85_) (fun _ _ _ h => h) (Or.inl ⟨by rfl, ?_⟩) ?_ ?_
         rotate_left
         ·intro w'
          go_simp
          with_reducible rfl
         rotate_left
         ·simp only [Act.put, sT_, s0_, sS_, i64_w, i32_w]
          rfl
         refine pure_ (i := 26) (N := some 4) (v := ?_) (a' := ?_) (fl_ 27 134217727) rfl rfl (any_of HT_.out z85_) (fun _ _ _ h => h) (Or.inl ⟨by rfl, ?_⟩) ?_ ?_
         rotate_left
         ·intro w'
          go_simp
          with_reducible rfl
         rotate_left
         ·simp only [Act.put, sT_, s0_, sS_, i64_w, i32_w]
          rfl
         refine done_ (done_of HT_.out z85_) ?_
         try go_wp2
         go_ret
         exact ⟨z76_, z14_⟩
        ·rw [if_neg c23] at H
         exact absurd H (by simp)
       ·replace c22 := Bool.eq_false_iff.mpr c22
        subst c22
        have H1 : (none) = some r := by rw [if_neg (show ¬ (false = true) by decide)] at H; exact H
        clear H
        have H := H1
        clear H1
        exact absurd H (by simp)
      ·rw [if_neg c21] at H
       exact absurd H (by simp)
     ·rw [if_neg c20] at H
      exact absurd H (by simp)
    ·replace c19 := Bool.eq_false_iff.mpr c19
     subst c19
     have H1 : (none) = some r := by rw [if_neg (show ¬ (false = true) by decide)] at H; exact H
     clear H
     have H := H1
     clear H1
     exact absurd H (by simp)

end Go.Proofs.YtnngbnhbmgdkoaaGreatDoor.P
