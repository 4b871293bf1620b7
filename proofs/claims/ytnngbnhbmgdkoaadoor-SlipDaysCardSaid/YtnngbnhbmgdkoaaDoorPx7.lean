-- Laid by wip/tools/cprint.py of this claim's own repo (over the kit's print).
import Derived.Test.YtnngbnhbmgdkoaaDoorSq
import Derived.Test.YtnngbnhbmgdkoaaDoorPx0
import Derived.Test.YtnngbnhbmgdkoaaDoorPx6
namespace Go.Proofs.YtnngbnhbmgdkoaaDoor.P
open Go.RowKit Go.Proofs.YtnngbnhbmgdkoaaDoor.E Go.Proofs.YtnngbnhbmgdkoaaDoorW.PrintWords Go.Proofs.YtnngbnhbmgdkoaaDoorW.PrintLast
set_option linter.unusedVariables false
set_option linter.unusedSimpArgs false

/-! ### cambistref19_Make: function 11 -/
mutual
def cambistref19_Make.l0 : Nat → List (S45) → ByteArray → ByteArray → Int → Int → ByteArray → ByteArray → Int → Int → List (S49) → Int → Option (ByteArray × ByteArray × Int × Int × (List (S49)) × Int × Int)
 | 0, _, _, _, _, _, _, _, _, _, _, _ => none
 | k + 1, x0, x1, x2, x3, x13, x201000, x201001, x201002, x201003, x201004, x201005 => if x13 < (x0.length : Int) then (cambistref19_Make.l1 k x0 x1 x2 x3 x13 0 x201000 x201001 x201002 x201003 x201004 x201005) else ((cambistref19_whole.f k x201000 x201001 x201002 x201003 x201004 x201005).bind fun bt201 => (if bt201.2 = 0 then (some (x201000, x201001, x201002, x201003, x201004, bt201.1, 0)) else (some ((⟨#[]⟩ : ByteArray), (⟨#[]⟩ : ByteArray), 0, 0, ([] : List (S49)), 0, bt201.2))))
def cambistref19_Make.l1 : Nat → List (S45) → ByteArray → ByteArray → Int → Int → Int → ByteArray → ByteArray → Int → Int → List (S49) → Int → Option (ByteArray × ByteArray × Int × Int × (List (S49)) × Int × Int)
 | 0, _, _, _, _, _, _, _, _, _, _, _, _ => none
 | k + 1, x0, x1, x2, x3, x13, x14, x201000, x201001, x201002, x201003, x201004, x201005 => if 0 ≤ x13 then (if x13 < (x0.length : Int) then (if x14 < (((rd_T45 x0 x13).f3).length : Int) then (cambistref19_Make.j2 k x0 x1 x2 x3 x13 x14 (((rd_T45 x0 x13).f1) == x3) x201000 x201001 x201002 x201003 x201004 x201005) else (cambistref19_Make.j2 k x0 x1 x2 x3 x13 x14 false x201000 x201001 x201002 x201003 x201004 x201005)) else (none)) else (none)
def cambistref19_Make.j2 : Nat → List (S45) → ByteArray → ByteArray → Int → Int → Int → Bool → ByteArray → ByteArray → Int → Int → List (S49) → Int → Option (ByteArray × ByteArray × Int × Int × (List (S49)) × Int × Int)
 | 0, _, _, _, _, _, _, _, _, _, _, _, _, _ => none
 | k + 1, x0, x1, x2, x3, x13, x14, x57, x201000, x201001, x201002, x201003, x201004, x201005 => if x57 = true then (if 0 ≤ x13 then (if x13 < (x0.length : Int) then (if 0 ≤ x14 then (if x14 < (((rd_T45 x0 x13).f3).length : Int) then (if ((rd_T47 ((rd_T45 x0 x13).f3) x14).f0).toList = x1.toList then (if ((rd_T47 ((rd_T45 x0 x13).f3) x14).f1).toList = x2.toList then (if x201004.length < 4398046511104 then (cambistref19_Make.l1 k x0 x1 x2 x3 x13 (wrap64 (x14 + 1)) x201000 x201001 x201002 x201003 (x201004 ++ [(⟨(rd_T45 x0 x13).f0, (rd_T45 x0 x13).f2, (rd_T47 ((rd_T45 x0 x13).f3) x14).f2⟩ : S49)]) x201005) else (none)) else (cambistref19_Make.l1 k x0 x1 x2 x3 x13 (wrap64 (x14 + 1)) x201000 x201001 x201002 x201003 x201004 x201005)) else (cambistref19_Make.l1 k x0 x1 x2 x3 x13 (wrap64 (x14 + 1)) x201000 x201001 x201002 x201003 x201004 x201005)) else (none)) else (none)) else (none)) else (none)) else (cambistref19_Make.l0 k x0 x1 x2 x3 (wrap64 (x13 + 1)) x201000 x201001 x201002 x201003 x201004 x201005)
end
def cambistref19_Make.f (k : Nat) (l0 : List (S45)) (a1 : ByteArray) (a2 : ByteArray) (a3 : Int) : Option (ByteArray × ByteArray × Int × Int × (List (S49)) × Int × Int) := (cambistref12_Sum.f k l0 a1 a2 0 a3).bind fun bt198 => (if bt198.2 = 0 then (cambistref19_Make.l0 k l0 a1 a2 a3 0 a1 a2 a3 bt198.1 ([] : List (S49)) 0) else (some ((⟨#[]⟩ : ByteArray), (⟨#[]⟩ : ByteArray), 0, 0, ([] : List (S49)), 0, bt198.2)))
theorem cambistref19_Make.mono_l : ∀ k, (∀ y0 y1 y2 y3 y4 y5 y6 y7 y8 y9 y10, LeO (cambistref19_Make.l0 k y0 y1 y2 y3 y4 y5 y6 y7 y8 y9 y10) (cambistref19_Make.l0 (k + 1) y0 y1 y2 y3 y4 y5 y6 y7 y8 y9 y10)) ∧ (∀ y0 y1 y2 y3 y4 y5 y6 y7 y8 y9 y10 y11, LeO (cambistref19_Make.l1 k y0 y1 y2 y3 y4 y5 y6 y7 y8 y9 y10 y11) (cambistref19_Make.l1 (k + 1) y0 y1 y2 y3 y4 y5 y6 y7 y8 y9 y10 y11)) ∧ (∀ y0 y1 y2 y3 y4 y5 y6 y7 y8 y9 y10 y11 y12, LeO (cambistref19_Make.j2 k y0 y1 y2 y3 y4 y5 y6 y7 y8 y9 y10 y11 y12) (cambistref19_Make.j2 (k + 1) y0 y1 y2 y3 y4 y5 y6 y7 y8 y9 y10 y11 y12))
 | 0 => ⟨fun _ _ _ _ _ _ _ _ _ _ _ r h => by simp [cambistref19_Make.l0] at h, fun _ _ _ _ _ _ _ _ _ _ _ _ r h => by simp [cambistref19_Make.l1] at h, fun _ _ _ _ _ _ _ _ _ _ _ _ _ r h => by simp [cambistref19_Make.j2] at h⟩
 | k + 1 => by
  obtain ⟨ih0, ih1, ih2⟩ := cambistref19_Make.mono_l k
  refine ⟨?_, ?_, ?_⟩
  ·intro y0 y1 y2 y3 y4 y5 y6 y7 y8 y9 y10
   unfold cambistref19_Make.l0
   repeat' first
   | (with_reducible exact ih0 _ _ _ _ _ _ _ _ _ _ _)
   | (with_reducible exact ih1 _ _ _ _ _ _ _ _ _ _ _ _)
   | (with_reducible exact ih2 _ _ _ _ _ _ _ _ _ _ _ _ _)
   | (with_reducible exact cambistref12_Sum.mono _ _ _ _ _ _)
   | (with_reducible exact cambistref19_whole.mono _ _ _ _ _ _ _)
   | (with_reducible first | exact LeO.refl _ | exact LeO.none _ | refine LeO.ite ?_ ?_ | refine LeO.bind ?_ fun _ => ?_)
   | exact ih0 _ _ _ _ _ _ _ _ _ _ _
   | exact ih1 _ _ _ _ _ _ _ _ _ _ _ _
   | exact ih2 _ _ _ _ _ _ _ _ _ _ _ _ _
   | exact cambistref12_Sum.mono _ _ _ _ _ _
   | exact cambistref19_whole.mono _ _ _ _ _ _ _
  ·intro y0 y1 y2 y3 y4 y5 y6 y7 y8 y9 y10 y11
   unfold cambistref19_Make.l1
   repeat' first
   | (with_reducible exact ih0 _ _ _ _ _ _ _ _ _ _ _)
   | (with_reducible exact ih1 _ _ _ _ _ _ _ _ _ _ _ _)
   | (with_reducible exact ih2 _ _ _ _ _ _ _ _ _ _ _ _ _)
   | (with_reducible exact cambistref12_Sum.mono _ _ _ _ _ _)
   | (with_reducible exact cambistref19_whole.mono _ _ _ _ _ _ _)
   | (with_reducible first | exact LeO.refl _ | exact LeO.none _ | refine LeO.ite ?_ ?_ | refine LeO.bind ?_ fun _ => ?_)
   | exact ih0 _ _ _ _ _ _ _ _ _ _ _
   | exact ih1 _ _ _ _ _ _ _ _ _ _ _ _
   | exact ih2 _ _ _ _ _ _ _ _ _ _ _ _ _
   | exact cambistref12_Sum.mono _ _ _ _ _ _
   | exact cambistref19_whole.mono _ _ _ _ _ _ _
  ·intro y0 y1 y2 y3 y4 y5 y6 y7 y8 y9 y10 y11 y12
   unfold cambistref19_Make.j2
   repeat' first
   | (with_reducible exact ih0 _ _ _ _ _ _ _ _ _ _ _)
   | (with_reducible exact ih1 _ _ _ _ _ _ _ _ _ _ _ _)
   | (with_reducible exact ih2 _ _ _ _ _ _ _ _ _ _ _ _ _)
   | (with_reducible exact cambistref12_Sum.mono _ _ _ _ _ _)
   | (with_reducible exact cambistref19_whole.mono _ _ _ _ _ _ _)
   | (with_reducible first | exact LeO.refl _ | exact LeO.none _ | refine LeO.ite ?_ ?_ | refine LeO.bind ?_ fun _ => ?_)
   | exact ih0 _ _ _ _ _ _ _ _ _ _ _
   | exact ih1 _ _ _ _ _ _ _ _ _ _ _ _
   | exact ih2 _ _ _ _ _ _ _ _ _ _ _ _ _
   | exact cambistref12_Sum.mono _ _ _ _ _ _
   | exact cambistref19_whole.mono _ _ _ _ _ _ _
theorem cambistref19_Make.mono : ∀ a0 a1 a2 a3 k, LeO (cambistref19_Make.f k a0 a1 a2 a3) (cambistref19_Make.f (k + 1) a0 a1 a2 a3) := by
 intro a0 a1 a2 a3 k
 obtain ⟨ih0, ih1, ih2⟩ := cambistref19_Make.mono_l k
 unfold cambistref19_Make.f
 repeat' first
   | (with_reducible exact ih0 _ _ _ _ _ _ _ _ _ _ _)
   | (with_reducible exact ih1 _ _ _ _ _ _ _ _ _ _ _ _)
   | (with_reducible exact ih2 _ _ _ _ _ _ _ _ _ _ _ _ _)
   | (with_reducible exact cambistref12_Sum.mono _ _ _ _ _ _)
   | (with_reducible exact cambistref19_whole.mono _ _ _ _ _ _ _)
   | (with_reducible first | exact LeO.refl _ | exact LeO.none _ | refine LeO.ite ?_ ?_ | refine LeO.bind ?_ fun _ => ?_)
   | exact ih0 _ _ _ _ _ _ _ _ _ _ _
   | exact ih1 _ _ _ _ _ _ _ _ _ _ _ _
   | exact ih2 _ _ _ _ _ _ _ _ _ _ _ _ _
   | exact cambistref12_Sum.mono _ _ _ _ _ _
   | exact cambistref19_whole.mono _ _ _ _ _ _ _
def cambistref19_Make.T13 : Bool × List (List Nat × List Nat) := (true, [([], []), ([0], [0]), ([], []), ([], []), ([2, 3], [2, 3]), ([4], [4]), ([5], [5]), ([], []), ([], []), ([7, 8], [7, 8]), ([9], [9]), ([10], [10]), ([], []), ([12], [12]), ([6, 11, 13], [6, 11, 13]), ([14], [14]), ([1, 15], [1, 15]), ([0, 1, 2, 3, 4, 5, 6, 7, 8, 9, 10, 11, 12, 13, 14, 15, 16], []), ([17, 16, 16, 0, 1, 2, 3, 4, 5, 6, 7, 8, 9, 10, 11, 12, 13, 14, 15, 16], [16, 17])])
def cambistref19_Make.B13 : List Nat := [0, 1, 0, 0, 12, 28, 60, 0, 0, 384, 896, 1920, 0, 4096, 16380, 32764, 65535, 131071, 262143]
theorem cambistref19_Make.tab13 : rtab .any (opsOf Tryd.f11 13) = cambistref19_Make.T13 := by kernel_rfl
theorem cambistref19_Make.bits13 : waitsOk cambistref19_Make.T13.2 cambistref19_Make.B13 = true := by kernel_rfl
set_option maxHeartbeats 8000000 in
set_option maxRecDepth 100000 in
theorem cambistref19_Make.calls (k : Nat) (A0 : Option Addr) (c0 : Nat) (l0 : List (S45)) (a1 : ByteArray) (a2 : ByteArray) (a3 : Int) (r1 : ByteArray) (r2 : ByteArray) (r3 : Int) (r4 : Int) (r5 : List (S49)) (r6 : Int) (r7 : Int) (w : World) (hG : Glob w) (hr0 : Kd.C k45 w A0 l0.length l0) (hc0 : l0.length ≤ c0) (h : cambistref19_Make.f k l0 a1 a2 a3 = some (r1, r2, r3, r4, r5, r6, r7)) :
  Calls Tryd.prog 11 #[.slice A0 l0.length c0, .string a1, .string a2, .int .u64 a3] w fun e w' => ∃ v4_ : Value, e = .returned (.tuple #[.agg #[.string r1, .string r2, .int .u64 r3, .int .i64 r4, v4_, .int .i64 r6], .int .i64 r7]) ∧ Kd.R k49 49 w' w.heap.size (fun _ => True) v4_ r5 ∧ Below w.heap.size w w' := by
 have hu28 := Tryd.underlying28
 have hu47 := Tryd.underlying47
 have hu49 := Tryd.underlying49
 have HG := a_ hG
 clear hG
 have HR0 := a_ hr0
 have HC0 := a_ hc0
 clear hr0 hc0
 have HB := a_ (Below.refl w.heap.size w)
 have H : ((cambistref12_Sum.f k l0 a1 a2 0 a3).bind fun bt198 => (if bt198.2 = 0 then (cambistref19_Make.l0 k l0 a1 a2 a3 0 a1 a2 a3 bt198.1 ([] : List (S49)) 0) else (some ((⟨#[]⟩ : ByteArray), (⟨#[]⟩ : ByteArray), 0, 0, ([] : List (S49)), 0, bt198.2)))) = some (r1, r2, r3, r4, r5, r6, r7) := h
 clear h
 replace H := Option.bind_eq_some_iff.mp H
 obtain ⟨⟨t198, t199⟩, A50, H⟩ := H
 replace H : (if t199 = 0 then (cambistref19_Make.l0 k l0 a1 a2 a3 0 a1 a2 a3 t198 ([] : List (S49)) 0) else (some ((⟨#[]⟩ : ByteArray), (⟨#[]⟩ : ByteArray), 0, 0, ([] : List (S49)), 0, t199))) = some (r1, r2, r3, r4, r5, r6, r7) := H
 have A5 := a_ A50
 clear A50
 by_cases c6 : t199 = 0
 ·rw [if_pos c6] at H
  have c6b0 : (t199 == 0) = true := beq_iff_eq.mpr c6
  have c6b1 : (t199 != 0) = false := bne_eq_false_iff_eq.mpr c6
  clear c6
  have H' := a_ H
  clear H
  go_enter Tryd.func11, Tryd.ntmps11
  go_wp2_with (first | ((with_reducible refine gate_dst (N := 8) rfl ?_); refine box_event ?hg (N := 8) ?hd (cs := #[.string (⟨#[]⟩ : ByteArray), .string (⟨#[]⟩ : ByteArray), .int .u64 0, .int .i64 0, .slice none 0 0, .int .i64 0]) (t := 28) ?hr ?_; (case hd => rfl); (case hg => rfl); (case hr => first | (go_simp; done) | (go_simp; rfl)); intro gb197 hg w7 hbox hb; have n0_ := a_ (below_step z41_ hb); have n1_ := a_ (hbox); have n2_ := a_ ((z27_ : w.heap.size ≤ gb197)); have n3_ := a_ ((z27_ : w.heap.size ≤ gb197)); clear HB; have HB := n0_; have BK197 := n1_; have GW197 := n2_; have GE197 := n3_; clear n0_ n1_ n2_ n3_; clear hb hbox hg) | ((with_reducible refine gate_callee (f := 20) rfl ?_); refine goesL_ (some 23) rfl rfl Tryd.func20 z71_ rfl #[.slice A0 l0.length c0, .string a1, .string a2, .int .u64 0, .int .u64 a3] rfl z26_ ?_; (with_reducible refine (cambistref12_Sum.calls k _ _ l0 a1 a2 0 a3 t198 t199 _ ?side1 ?side2 ?side3 A5.out).mono ?_); (case side1 => exact Glob.below HG.out z33_); (case side2 => repeat (first | exact (Kd.C_below HR0.out HB.out) | (with_reducible refine Kd.C_alloc ?_ _) | (with_reducible refine Kd.C_drewN ?_ _) | (with_reducible refine Kd.C_drew ?_))); (case side3 => exact HC0.out); rintro e w8 ⟨rfl, hb⟩; refine ⟨_, rfl, ?_⟩; have n0_ := a_ (blk_below (g := gb197) (o := .cells #[.string (⟨#[]⟩ : ByteArray), .string (⟨#[]⟩ : ByteArray), .int .u64 0, .int .i64 0, .slice none 0 0, .int .i64 0] 28 (0, 0)) z53_ hb); have n1_ := a_ (below_step z33_ hb); clear BK197; clear HB; have BK197 := n0_; have HB := n1_; clear n0_ n1_; (try clear hb); (try clear hb2); (try clear hk); (try clear hi)) | ((with_reducible refine gate_dst (N := 12) rfl ?_); refine box_event ?hg (N := 12) ?hd (cs := #[.string (⟨#[]⟩ : ByteArray), .string (⟨#[]⟩ : ByteArray), .int .u64 0, .int .i64 0, .slice none 0 0, .int .i64 0]) (t := 28) ?hr ?_; (case hd => rfl); (case hg => rfl); (case hr => first | (go_simp; done) | (go_simp; rfl)); intro gb200 hg w9 hbox hb; have n0_ := a_ (blk_below (g := gb197) (o := .cells #[.string (⟨#[]⟩ : ByteArray), .string (⟨#[]⟩ : ByteArray), .int .u64 0, .int .i64 0, .slice none 0 0, .int .i64 0] 28 (0, 0)) z53_ hb); have n1_ := a_ (below_step z33_ hb); have n2_ := a_ (hbox); have n3_ := a_ ((by rw [hg]; exact (below_size z33_) : w.heap.size ≤ gb200)); have n4_ := a_ ((by rw [hg]; exact (below_size z33_) : w.heap.size ≤ gb200)); have n5_ := a_ ((by rw [hg]; exact Nat.ne_of_lt (blk_lt (g := gb197) (o := .cells #[.string (⟨#[]⟩ : ByteArray), .string (⟨#[]⟩ : ByteArray), .int .u64 0, .int .i64 0, .slice none 0 0, .int .i64 0] 28 (0, 0)) z53_) : gb197 ≠ gb200)); have n6_ := a_ ((by rw [hg]; exact Nat.ne_of_gt (blk_lt (g := gb197) (o := .cells #[.string (⟨#[]⟩ : ByteArray), .string (⟨#[]⟩ : ByteArray), .int .u64 0, .int .i64 0, .slice none 0 0, .int .i64 0] 28 (0, 0)) z53_) : gb200 ≠ gb197)); clear BK197; clear HB; have BK197 := n0_; have HB := n1_; have BK200 := n2_; have GW200 := n3_; have GE200 := n4_; have NB197_200 := n5_; have NB200_197 := n6_; clear n0_ n1_ n2_ n3_ n4_ n5_ n6_; clear hb hbox hg; have hnb10 := NB200_197.out; have hnc10 := NB197_200.out; have hcz11_0 : w9.cell? ⟨gb200, 0, none⟩ = some (.string (⟨#[]⟩ : ByteArray)) := (blk_cell BK200.out 0).trans rfl; have hcz11_1 : w9.cell? ⟨gb200, 1, none⟩ = some (.string (⟨#[]⟩ : ByteArray)) := (blk_cell BK200.out 1).trans rfl; have hcz11_2 : w9.cell? ⟨gb200, 2, none⟩ = some (.int .u64 0) := (blk_cell BK200.out 2).trans rfl; have hcz11_3 : w9.cell? ⟨gb200, 3, none⟩ = some (.int .i64 0) := (blk_cell BK200.out 3).trans rfl; have hcz11_4 : w9.cell? ⟨gb200, 4, none⟩ = some (.slice none 0 0) := (blk_cell BK200.out 4).trans rfl; have hcz11_5 : w9.cell? ⟨gb200, 5, none⟩ = some (.int .i64 0) := (blk_cell BK200.out 5).trans rfl; have hfz11_0 := blk_frozen BK200.out 0; have hfz11_1 := blk_frozen BK200.out 1; have hfz11_2 := blk_frozen BK200.out 2; have hfz11_3 := blk_frozen BK200.out 3; have hfz11_4 := blk_frozen BK200.out 4; have hfz11_5 := blk_frozen BK200.out 5))
  go_loopg [13] k (fun kq v13 w' => ∃ (x13_1 : Int) (x201004_1 : List (S49)) (u201004 : Value), v13 = .int .i64 x13_1 ∧ Aside0 (cambistref19_Make.l0 kq l0 a1 a2 a3 x13_1 a1 a2 a3 t198 x201004_1 0 = some (r1, r2, r3, r4, r5, r6, r7)) ∧ Aside0 (kq ≤ k) ∧ Aside0 (Kd.R k49 49 w' w.heap.size (fun _ => True) u201004 x201004_1) ∧ Aside0 (w'.heap[gb197]? = some (.cells #[.string (⟨#[]⟩ : ByteArray), .string (⟨#[]⟩ : ByteArray), .int .u64 0, .int .i64 0, (.slice none 0 0), .int .i64 0] 28 (0, 0))) ∧ Aside0 (w'.heap[gb200]? = some (.cells #[.string a1, .string a2, .int .u64 a3, .int .i64 t198, u201004, .int .i64 0] 28 (0, 0))) ∧ Aside0 (Below w.heap.size w w'))
  case atStart => exact ⟨(0), (([] : List (S49))), (.slice none 0 0), z68_, H', ⟨Nat.le_refl _⟩, ⟨z25_⟩, ⟨by (with_reducible repeat (first | refine kN_ ?_ _ | refine kD_ ?_ | refine kA_ ?_ _)); refine blk_far ?_ NB197_200.out _; (with_reducible repeat (first | refine kN_ ?_ _ | refine kD_ ?_ | refine kA_ ?_ _)); refine blk_far ?_ NB197_200.out _; (with_reducible repeat (first | refine kN_ ?_ _ | refine kD_ ?_ | refine kA_ ?_ _)); refine blk_far ?_ NB197_200.out _; (with_reducible repeat (first | refine kN_ ?_ _ | refine kD_ ?_ | refine kA_ ?_ _)); refine blk_far ?_ NB197_200.out _; (with_reducible repeat (first | refine kN_ ?_ _ | refine kD_ ?_ | refine kA_ ?_ _)); refine blk_far ?_ NB197_200.out _; (with_reducible repeat (first | refine kN_ ?_ _ | refine kD_ ?_ | refine kA_ ?_ _)); refine blk_far ?_ NB197_200.out _; (with_reducible repeat (first | refine kN_ ?_ _ | refine kD_ ?_ | refine kA_ ?_ _)); exact BK197.out⟩, ⟨by (with_reducible repeat (first | refine kN_ ?_ _ | refine kD_ ?_ | refine kA_ ?_ _)); refine blk_put (cs := #[.string a1, .string a2, .int .u64 a3, .int .i64 t198, .slice none 0 0, .int .i64 0]) ?_ 5 _ rfl; (with_reducible repeat (first | refine kN_ ?_ _ | refine kD_ ?_ | refine kA_ ?_ _)); refine blk_put (cs := #[.string a1, .string a2, .int .u64 a3, .int .i64 t198, .slice none 0 0, .int .i64 0]) ?_ 4 _ rfl; (with_reducible repeat (first | refine kN_ ?_ _ | refine kD_ ?_ | refine kA_ ?_ _)); refine blk_put (cs := #[.string a1, .string a2, .int .u64 a3, .int .i64 0, .slice none 0 0, .int .i64 0]) ?_ 3 _ rfl; (with_reducible repeat (first | refine kN_ ?_ _ | refine kD_ ?_ | refine kA_ ?_ _)); refine blk_put (cs := #[.string a1, .string a2, .int .u64 0, .int .i64 0, .slice none 0 0, .int .i64 0]) ?_ 2 _ rfl; (with_reducible repeat (first | refine kN_ ?_ _ | refine kD_ ?_ | refine kA_ ?_ _)); refine blk_put (cs := #[.string a1, .string (⟨#[]⟩ : ByteArray), .int .u64 0, .int .i64 0, .slice none 0 0, .int .i64 0]) ?_ 1 _ rfl; (with_reducible repeat (first | refine kN_ ?_ _ | refine kD_ ?_ | refine kA_ ?_ _)); refine blk_put (cs := #[.string (⟨#[]⟩ : ByteArray), .string (⟨#[]⟩ : ByteArray), .int .u64 0, .int .i64 0, .slice none 0 0, .int .i64 0]) ?_ 0 _ rfl; (with_reducible repeat (first | refine kN_ ?_ _ | refine kD_ ?_ | refine kA_ ?_ _)); exact BK200.out⟩, ⟨z21_⟩⟩
  case round =>
   clear H'
   try clear c1
   try clear c2
   try clear p2
   try clear c6
   try clear c6b0
   try clear c6b1
   try clear c10
   try clear c11
   try clear hcz11_0
   try clear hcz11_1
   try clear hcz11_2
   try clear hcz11_3
   try clear hcz11_4
   try clear hcz11_5
   try clear hfz11_0
   try clear hfz11_1
   try clear hfz11_2
   try clear hfz11_3
   try clear hfz11_4
   try clear hfz11_5
   obtain ⟨x13_1, x201004_1, u201004, rfl, HA, HK1, HO_201004, BK197, BK200, HB⟩ := hrel
   cases gk with
   | zero => exact absurd HA.out (by simp [cambistref19_Make.l0])
   | succ k1 =>
    have H := HA.out
    clear HA
    simp only [cambistref19_Make.l0] at H
    by_cases c12 : x13_1 < (l0.length : Int)
    ·rw [if_pos c12] at H
     have c12b0 : decide (x13_1 < (l0.length : Int)) = true := decide_eq_true c12
     clear c12
     have H' := a_ H
     clear H
     go_wp2
     go_loopg [14] k1 (fun kq v14 w' => ∃ (x14_2 : Int) (x201004_2 : List (S49)) (u201004 : Value), v14 = .int .i64 x14_2 ∧ Aside0 (cambistref19_Make.l1 kq l0 a1 a2 a3 x13_1 x14_2 a1 a2 a3 t198 x201004_2 0 = some (r1, r2, r3, r4, r5, r6, r7)) ∧ Aside0 (kq ≤ k1) ∧ Aside0 (Kd.R k49 49 w' w.heap.size (fun _ => True) u201004 x201004_2) ∧ Aside0 (w'.heap[gb197]? = some (.cells #[.string (⟨#[]⟩ : ByteArray), .string (⟨#[]⟩ : ByteArray), .int .u64 0, .int .i64 0, (.slice none 0 0), .int .i64 0] 28 (0, 0))) ∧ Aside0 (w'.heap[gb200]? = some (.cells #[.string a1, .string a2, .int .u64 a3, .int .i64 t198, u201004, .int .i64 0] 28 (0, 0))) ∧ Aside0 (Below w.heap.size w w'))
     case atStart => exact ⟨(0), (x201004_1), (u201004), z68_, H', ⟨Nat.le_refl _⟩, ⟨z37_⟩, ⟨z53_⟩, ⟨z54_⟩, ⟨z21_⟩⟩
     case round =>
      clear H'
      try clear c1
      try clear c2
      try clear p2
      try clear c6
      try clear c6b0
      try clear c6b1
      try clear c10
      try clear c11
      try clear c12
      try clear c12b0
      try clear hcz11_0
      try clear hcz11_1
      try clear hcz11_2
      try clear hcz11_3
      try clear hcz11_4
      try clear hcz11_5
      try clear hfz11_0
      try clear hfz11_1
      try clear hfz11_2
      try clear hfz11_3
      try clear hfz11_4
      try clear hfz11_5
      try clear p2
      obtain ⟨x14_2, x201004_2, u201004, rfl, HA, HK2, HO_201004, BK197, BK200, HB⟩ := hrel
      cases gk with
      | zero => exact absurd HA.out (by simp [cambistref19_Make.l1])
      | succ k2 =>
       have H := HA.out
       clear HA
       simp only [cambistref19_Make.l1] at H
       have HC13 := a_ H
       clear H
       go_upto_region 9 with (fail)
       go_cut [57] (fun v57 wc => ∃ (kq : Nat) (x57_12 : Bool), v57 = .bool x57_12 ∧ Aside0 (cambistref19_Make.j2 kq l0 a1 a2 a3 x13_1 x14_2 x57_12 a1 a2 a3 t198 x201004_2 0 = some (r1, r2, r3, r4, r5, r6, r7)) ∧ Aside0 (kq ≤ k2) ∧ Aside0 (Kd.R k49 49 wc w.heap.size (fun _ => True) u201004 x201004_2) ∧ Aside0 (wc.heap[gb197]? = some (.cells #[.string (⟨#[]⟩ : ByteArray), .string (⟨#[]⟩ : ByteArray), .int .u64 0, .int .i64 0, (.slice none 0 0), .int .i64 0] 28 (0, 0))) ∧ Aside0 (wc.heap[gb200]? = some (.cells #[.string a1, .string a2, .int .u64 a3, .int .i64 t198, u201004, .int .i64 0] 28 (0, 0))) ∧ Aside0 (Below w.heap.size w wc))
       case first =>
        have H := HC13.out
        clear HC13
        by_cases c14 : 0 ≤ x13_1
        ·rw [if_pos c14] at H
         have c14b0 : decide (0 ≤ x13_1) = true := decide_eq_true c14
         clear c14
         (first | rw [c14b0] | (simp only [i64_w, i32_w]; rw [c14b0]) | skip)
         by_cases c15 : x13_1 < (l0.length : Int)
         ·rw [if_pos c15] at H
          have c15b0 : decide (x13_1 < (l0.length : Int)) = true := decide_eq_true c15
          clear c15
          by_cases c16 : x14_2 < (((rd_T45 l0 x13_1).f3).length : Int)
          ·rw [if_pos c16] at H
           have c16b0 : decide (x14_2 < (((rd_T45 l0 x13_1).f3).length : Int)) = true := decide_eq_true c16
           clear c16
           have H' := a_ H
           clear H
           have p203 : 0 ≤ (x13_1 : Int) := of_decide_eq_true z67_
           have q203 : x13_1 < (l0.length : Int) := of_decide_eq_true z67_
           obtain ⟨ad203, A203_3, c203_3, e203, hx203_0, hx203_1, hx203_2, hx203_3, hl203_3, hi203_3⟩ := at_T45 HR0.out x13_1 p203 q203
           cases e203
           replace hx203_0 := (HB.out.cell (World.block_lt_of_cell? w _ hx203_0)).trans hx203_0
           replace hx203_1 := (HB.out.cell (World.block_lt_of_cell? w _ hx203_1)).trans hx203_1
           replace hx203_2 := (HB.out.cell (World.block_lt_of_cell? w _ hx203_2)).trans hx203_2
           replace hx203_3 := (HB.out.cell (World.block_lt_of_cell? w _ hx203_3)).trans hx203_3
           have HR203_3 := a_ hi203_3
           have HC203_3 := a_ hl203_3
           clear hi203_3 hl203_3
           replace p203 := eq_true p203
           replace q203 := eq_true q203
           have p204 : 0 ≤ (x13_1 : Int) := of_decide_eq_true z67_
           have q204 : x13_1 < (l0.length : Int) := of_decide_eq_true z67_
           obtain ⟨ad204, A204_3, c204_3, e204, hx204_0, hx204_1, hx204_2, hx204_3, hl204_3, hi204_3⟩ := at_T45 HR0.out x13_1 p204 q204
           obtain rfl : ad203 = ad204 := (by injection e204)
           replace hx204_0 := (HB.out.cell (World.block_lt_of_cell? w _ hx204_0)).trans hx204_0
           replace hx204_1 := (HB.out.cell (World.block_lt_of_cell? w _ hx204_1)).trans hx204_1
           replace hx204_2 := (HB.out.cell (World.block_lt_of_cell? w _ hx204_2)).trans hx204_2
           replace hx204_3 := (HB.out.cell (World.block_lt_of_cell? w _ hx204_3)).trans hx204_3
           have HR204_3 := a_ hi204_3
           have HC204_3 := a_ hl204_3
           clear hi204_3 hl204_3
           replace p204 := eq_true p204
           replace q204 := eq_true q204
           have ea_ := Option.some.inj (hx203_3.symm.trans hx204_3)
           injection ea_ with ea_ en_ ec_
           subst ea_
           subst ec_
           clear en_
           go_wp2
           go_meet
           case rel => exact ⟨_, ((((rd_T45 l0 x13_1).f1) == a3)), z68_, H', ⟨z63_⟩, ⟨z37_⟩, ⟨z53_⟩, ⟨z54_⟩, ⟨z21_⟩⟩
          ·rw [if_neg c16] at H
           have c16b0 : decide (x14_2 < (((rd_T45 l0 x13_1).f3).length : Int)) = false := decide_eq_false c16
           clear c16
           have H' := a_ H
           clear H
           have p203 : 0 ≤ (x13_1 : Int) := of_decide_eq_true z67_
           have q203 : x13_1 < (l0.length : Int) := of_decide_eq_true z67_
           obtain ⟨ad203, A203_3, c203_3, e203, hx203_0, hx203_1, hx203_2, hx203_3, hl203_3, hi203_3⟩ := at_T45 HR0.out x13_1 p203 q203
           cases e203
           replace hx203_0 := (HB.out.cell (World.block_lt_of_cell? w _ hx203_0)).trans hx203_0
           replace hx203_1 := (HB.out.cell (World.block_lt_of_cell? w _ hx203_1)).trans hx203_1
           replace hx203_2 := (HB.out.cell (World.block_lt_of_cell? w _ hx203_2)).trans hx203_2
           replace hx203_3 := (HB.out.cell (World.block_lt_of_cell? w _ hx203_3)).trans hx203_3
           have HR203_3 := a_ hi203_3
           have HC203_3 := a_ hl203_3
           clear hi203_3 hl203_3
           replace p203 := eq_true p203
           replace q203 := eq_true q203
           go_wp2
           go_meet
           case rel => exact ⟨_, (false), z68_, H', ⟨z63_⟩, ⟨z37_⟩, ⟨z53_⟩, ⟨z54_⟩, ⟨z21_⟩⟩
         ·rw [if_neg c15] at H
          exact absurd H (by simp)
        ·rw [if_neg c14] at H
         exact absurd H (by simp)
       case rest =>
        clear HC13
        try clear c1
        try clear c2
        try clear p2
        try clear q2
        try clear hx2
        try clear c6
        try clear c6b0
        try clear c6b1
        try clear c10
        try clear c11
        try clear c12
        try clear c12b0
        try clear c14
        try clear c14b0
        try clear c15
        try clear c15b0
        try clear c16
        try clear c16b0
        try clear hcz11_0
        try clear hcz11_1
        try clear hcz11_2
        try clear hcz11_3
        try clear hcz11_4
        try clear hcz11_5
        try clear hfz11_0
        try clear hfz11_1
        try clear hfz11_2
        try clear hfz11_3
        try clear hfz11_4
        try clear hfz11_5
        try clear hx203_0
        try clear hx203_1
        try clear hx203_2
        try clear hx203_3
        try clear hx204_0
        try clear hx204_1
        try clear hx204_2
        try clear hx204_3
        try clear p2
        try clear p203
        try clear p204
        try clear q203
        try clear q204
        obtain ⟨kq, x57_12, rfl, HA, HJ12, HO_201004, BK197, BK200, HB⟩ := hcut
        cases kq with
        | zero => exact absurd HA.out (by simp [cambistref19_Make.j2])
        | succ kj12 =>
         have H := HA.out
         clear HA
         simp only [cambistref19_Make.j2] at H
         by_cases c17 : x57_12 = true
         ·subst c17
          have H1 : (if 0 ≤ x13_1 then (if x13_1 < (l0.length : Int) then (if 0 ≤ x14_2 then (if x14_2 < (((rd_T45 l0 x13_1).f3).length : Int) then (if ((rd_T47 ((rd_T45 l0 x13_1).f3) x14_2).f0).toList = a1.toList then (if ((rd_T47 ((rd_T45 l0 x13_1).f3) x14_2).f1).toList = a2.toList then (if x201004_2.length < 4398046511104 then (cambistref19_Make.l1 kj12 l0 a1 a2 a3 x13_1 (wrap64 (x14_2 + 1)) a1 a2 a3 t198 (x201004_2 ++ [(⟨(rd_T45 l0 x13_1).f0, (rd_T45 l0 x13_1).f2, (rd_T47 ((rd_T45 l0 x13_1).f3) x14_2).f2⟩ : S49)]) 0) else (none)) else (cambistref19_Make.l1 kj12 l0 a1 a2 a3 x13_1 (wrap64 (x14_2 + 1)) a1 a2 a3 t198 x201004_2 0)) else (cambistref19_Make.l1 kj12 l0 a1 a2 a3 x13_1 (wrap64 (x14_2 + 1)) a1 a2 a3 t198 x201004_2 0)) else (none)) else (none)) else (none)) else (none)) = some (r1, r2, r3, r4, r5, r6, r7) := by rw [if_pos rfl] at H; exact H
          clear H
          have H := H1
          clear H1
          by_cases c18 : 0 ≤ x13_1
          ·rw [if_pos c18] at H
           have c18b0 : decide (0 ≤ x13_1) = true := decide_eq_true c18
           clear c18
           by_cases c19 : x13_1 < (l0.length : Int)
           ·rw [if_pos c19] at H
            have c19b0 : decide (x13_1 < (l0.length : Int)) = true := decide_eq_true c19
            clear c19
            by_cases c20 : 0 ≤ x14_2
            ·rw [if_pos c20] at H
             have c20b0 : decide (0 ≤ x14_2) = true := decide_eq_true c20
             clear c20
             by_cases c21 : x14_2 < (((rd_T45 l0 x13_1).f3).length : Int)
             ·rw [if_pos c21] at H
              have c21b0 : decide (x14_2 < (((rd_T45 l0 x13_1).f3).length : Int)) = true := decide_eq_true c21
              clear c21
              by_cases c22 : ((rd_T47 ((rd_T45 l0 x13_1).f3) x14_2).f0).toList = a1.toList
              ·rw [if_pos c22] at H
               have c22b0 : (((rd_T47 ((rd_T45 l0 x13_1).f3) x14_2).f0).toList == a1.toList) = true := beq_iff_eq.mpr c22
               have c22b1 : (((rd_T47 ((rd_T45 l0 x13_1).f3) x14_2).f0).toList != a1.toList) = false := bne_eq_false_iff_eq.mpr c22
               clear c22
               by_cases c23 : ((rd_T47 ((rd_T45 l0 x13_1).f3) x14_2).f1).toList = a2.toList
               ·rw [if_pos c23] at H
                have c23b0 : (((rd_T47 ((rd_T45 l0 x13_1).f3) x14_2).f1).toList == a2.toList) = true := beq_iff_eq.mpr c23
                have c23b1 : (((rd_T47 ((rd_T45 l0 x13_1).f3) x14_2).f1).toList != a2.toList) = false := bne_eq_false_iff_eq.mpr c23
                clear c23
                by_cases c24 : x201004_2.length < 4398046511104
                ·rw [if_pos c24] at H
                 have LMc24 := a_ c24
                 clear c24
                 obtain ⟨y210, hy210⟩ : ∃ y_ : List (S49), y_ = (x201004_2 ++ [(⟨(rd_T45 l0 x13_1).f0, (rd_T45 l0 x13_1).f2, (rd_T47 ((rd_T45 l0 x13_1).f3) x14_2).f2⟩ : S49)]) := ⟨_, rfl⟩
                 replace H : (cambistref19_Make.l1 kj12 l0 a1 a2 a3 x13_1 (wrap64 (x14_2 + 1)) a1 a2 a3 t198 y210 0) = some (r1, r2, r3, r4, r5, r6, r7) := by first | (rw [hy210]; with_reducible exact H) | (have H2_ := (Option.bind_some _ _).symm.trans H; rw [hy210]; with_reducible exact H2_) | (have H2_ := (Option.bind_some _ _).symm.trans H; with_reducible exact H2_) | with_reducible exact H | (rw [hy210]; exact H) | exact H
                 have Ny210 := a_ hy210
                 clear hy210
                 have H' := a_ H
                 clear H
                 have p205 : 0 ≤ (x13_1 : Int) := of_decide_eq_true z67_
                 have q205 : x13_1 < (l0.length : Int) := of_decide_eq_true z67_
                 obtain ⟨ad205, A205_3, c205_3, e205, hx205_0, hx205_1, hx205_2, hx205_3, hl205_3, hi205_3⟩ := at_T45 HR0.out x13_1 p205 q205
                 cases e205
                 replace hx205_0 := (HB.out.cell (World.block_lt_of_cell? w _ hx205_0)).trans hx205_0
                 replace hx205_1 := (HB.out.cell (World.block_lt_of_cell? w _ hx205_1)).trans hx205_1
                 replace hx205_2 := (HB.out.cell (World.block_lt_of_cell? w _ hx205_2)).trans hx205_2
                 replace hx205_3 := (HB.out.cell (World.block_lt_of_cell? w _ hx205_3)).trans hx205_3
                 have HR205_3 := a_ hi205_3
                 have HC205_3 := a_ hl205_3
                 clear hi205_3 hl205_3
                 replace p205 := eq_true p205
                 replace q205 := eq_true q205
                 have p206 : 0 ≤ (x14_2 : Int) := of_decide_eq_true z67_
                 have q206 : x14_2 < (((rd_T45 l0 x13_1).f3).length : Int) := of_decide_eq_true z67_
                 obtain ⟨ad206, e206, hx206_0, hx206_1, hx206_2⟩ := at_T47 HR205_3.out x14_2 p206 q206
                 cases e206
                 replace hx206_0 := (HB.out.cell (World.block_lt_of_cell? w _ hx206_0)).trans hx206_0
                 replace hx206_1 := (HB.out.cell (World.block_lt_of_cell? w _ hx206_1)).trans hx206_1
                 replace hx206_2 := (HB.out.cell (World.block_lt_of_cell? w _ hx206_2)).trans hx206_2
                 replace p206 := eq_true p206
                 replace q206 := eq_true q206
                 try go_wp2_with (first | ((with_reducible refine gate_dst (N := 15) rfl ?_); refine box_event ?hg (N := 15) ?hd (cs := #[.string (⟨#[]⟩ : ByteArray), .string (⟨#[]⟩ : ByteArray), .int .i64 0]) (t := 47) ?hr ?_; (case hd => rfl); (case hg => rfl); (case hr => first | (go_simp; done) | (go_simp; rfl)); intro gb207 hg w25 hbox hb; have n0_ := a_ (Kd.R_below z37_ hb); have n1_ := a_ (blk_below (g := gb197) (o := .cells #[.string (⟨#[]⟩ : ByteArray), .string (⟨#[]⟩ : ByteArray), .int .u64 0, .int .i64 0, .slice none 0 0, .int .i64 0] 28 (0, 0)) z53_ hb); have n2_ := a_ (blk_below (g := gb200) (o := .cells #[.string a1, .string a2, .int .u64 a3, .int .i64 t198, u201004, .int .i64 0] 28 (0, 0)) z54_ hb); have n3_ := a_ (below_step z21_ hb); have n4_ := a_ (hbox); have n5_ := a_ ((z13_ : w.heap.size ≤ gb207)); have n6_ := a_ ((z13_ : w.heap.size ≤ gb207)); have n7_ := a_ ((by rw [hg]; exact Nat.ne_of_lt (blk_lt (g := gb197) (o := .cells #[.string (⟨#[]⟩ : ByteArray), .string (⟨#[]⟩ : ByteArray), .int .u64 0, .int .i64 0, .slice none 0 0, .int .i64 0] 28 (0, 0)) z53_) : gb197 ≠ gb207)); have n8_ := a_ ((by rw [hg]; exact Nat.ne_of_gt (blk_lt (g := gb197) (o := .cells #[.string (⟨#[]⟩ : ByteArray), .string (⟨#[]⟩ : ByteArray), .int .u64 0, .int .i64 0, .slice none 0 0, .int .i64 0] 28 (0, 0)) z53_) : gb207 ≠ gb197)); have n9_ := a_ ((by rw [hg]; exact Nat.ne_of_lt (blk_lt (g := gb200) (o := .cells #[.string a1, .string a2, .int .u64 a3, .int .i64 t198, u201004, .int .i64 0] 28 (0, 0)) z54_) : gb200 ≠ gb207)); have n10_ := a_ ((by rw [hg]; exact Nat.ne_of_gt (blk_lt (g := gb200) (o := .cells #[.string a1, .string a2, .int .u64 a3, .int .i64 t198, u201004, .int .i64 0] 28 (0, 0)) z54_) : gb207 ≠ gb200)); clear HO_201004; clear BK197; clear BK200; clear HB; have HO_201004 := n0_; have BK197 := n1_; have BK200 := n2_; have HB := n3_; have BK207 := n4_; have GW207 := n5_; have GE207 := n6_; have NB197_207 := n7_; have NB207_197 := n8_; have NB200_207 := n9_; have NB207_200 := n10_; clear n0_ n1_ n2_ n3_ n4_ n5_ n6_ n7_ n8_ n9_ n10_; clear hb hbox hg; have hnb26 := NB207_197.out; have hnc26 := NB197_207.out; have hnb27 := NB207_200.out; have hnc27 := NB200_207.out; have hcz28_0 : w25.cell? ⟨gb207, 0, none⟩ = some (.string (⟨#[]⟩ : ByteArray)) := (blk_cell BK207.out 0).trans rfl; have hcz28_1 : w25.cell? ⟨gb207, 1, none⟩ = some (.string (⟨#[]⟩ : ByteArray)) := (blk_cell BK207.out 1).trans rfl; have hcz28_2 : w25.cell? ⟨gb207, 2, none⟩ = some (.int .i64 0) := (blk_cell BK207.out 2).trans rfl; have hfz28_0 := blk_frozen BK207.out 0; have hfz28_1 := blk_frozen BK207.out 1; have hfz28_2 := blk_frozen BK207.out 2))
                 have n0_ : Aside0 (Kd.R k49 49 (((w25.setCell ⟨gb207, 0, none⟩ (.string ((rd_T47 ((rd_T45 l0 x13_1).f3) x14_2).f0))).setCell ⟨gb207, 1, none⟩ (.string ((rd_T47 ((rd_T45 l0 x13_1).f3) x14_2).f1))).setCell ⟨gb207, 2, none⟩ (.int .i64 ((rd_T47 ((rd_T45 l0 x13_1).f3) x14_2).f2))) w.heap.size (fun _ => True) u201004 x201004_2) := ⟨z2_⟩
                 have n1_ : Aside0 ((((w25.setCell ⟨gb207, 0, none⟩ (.string ((rd_T47 ((rd_T45 l0 x13_1).f3) x14_2).f0))).setCell ⟨gb207, 1, none⟩ (.string ((rd_T47 ((rd_T45 l0 x13_1).f3) x14_2).f1))).setCell ⟨gb207, 2, none⟩ (.int .i64 ((rd_T47 ((rd_T45 l0 x13_1).f3) x14_2).f2))).heap[gb197]? = some (.cells #[.string (⟨#[]⟩ : ByteArray), .string (⟨#[]⟩ : ByteArray), .int .u64 0, .int .i64 0, .slice none 0 0, .int .i64 0] 28 (0, 0))) := ⟨z6_⟩
                 have n2_ : Aside0 ((((w25.setCell ⟨gb207, 0, none⟩ (.string ((rd_T47 ((rd_T45 l0 x13_1).f3) x14_2).f0))).setCell ⟨gb207, 1, none⟩ (.string ((rd_T47 ((rd_T45 l0 x13_1).f3) x14_2).f1))).setCell ⟨gb207, 2, none⟩ (.int .i64 ((rd_T47 ((rd_T45 l0 x13_1).f3) x14_2).f2))).heap[gb200]? = some (.cells #[.string a1, .string a2, .int .u64 a3, .int .i64 t198, u201004, .int .i64 0] 28 (0, 0))) := ⟨z7_⟩
                 have n3_ : Aside0 ((((w25.setCell ⟨gb207, 0, none⟩ (.string ((rd_T47 ((rd_T45 l0 x13_1).f3) x14_2).f0))).setCell ⟨gb207, 1, none⟩ (.string ((rd_T47 ((rd_T45 l0 x13_1).f3) x14_2).f1))).setCell ⟨gb207, 2, none⟩ (.int .i64 ((rd_T47 ((rd_T45 l0 x13_1).f3) x14_2).f2))).heap[gb207]? = some (.cells #[.string ((rd_T47 ((rd_T45 l0 x13_1).f3) x14_2).f0), .string ((rd_T47 ((rd_T45 l0 x13_1).f3) x14_2).f1), .int .i64 ((rd_T47 ((rd_T45 l0 x13_1).f3) x14_2).f2)] 47 (0, 0))) := ⟨by (with_reducible repeat (first | refine kN_ ?_ _ | refine kD_ ?_ | refine kA_ ?_ _)); refine blk_put (cs := #[.string ((rd_T47 ((rd_T45 l0 x13_1).f3) x14_2).f0), .string ((rd_T47 ((rd_T45 l0 x13_1).f3) x14_2).f1), .int .i64 0]) ?_ 2 _ rfl; (with_reducible repeat (first | refine kN_ ?_ _ | refine kD_ ?_ | refine kA_ ?_ _)); refine blk_put (cs := #[.string ((rd_T47 ((rd_T45 l0 x13_1).f3) x14_2).f0), .string (⟨#[]⟩ : ByteArray), .int .i64 0]) ?_ 1 _ rfl; (with_reducible repeat (first | refine kN_ ?_ _ | refine kD_ ?_ | refine kA_ ?_ _)); refine blk_put (cs := #[.string (⟨#[]⟩ : ByteArray), .string (⟨#[]⟩ : ByteArray), .int .i64 0]) ?_ 0 _ rfl; (with_reducible repeat (first | refine kN_ ?_ _ | refine kD_ ?_ | refine kA_ ?_ _)); exact BK207.out⟩
                 have n4_ : Aside0 (Below w.heap.size w (((w25.setCell ⟨gb207, 0, none⟩ (.string ((rd_T47 ((rd_T45 l0 x13_1).f3) x14_2).f0))).setCell ⟨gb207, 1, none⟩ (.string ((rd_T47 ((rd_T45 l0 x13_1).f3) x14_2).f1))).setCell ⟨gb207, 2, none⟩ (.int .i64 ((rd_T47 ((rd_T45 l0 x13_1).f3) x14_2).f2)))) := ⟨z14_⟩
                 (try clear HO_201004)
                 (try clear BK197)
                 (try clear BK200)
                 (try clear BK207)
                 (try clear HB)
                 generalize (((w25.setCell ⟨gb207, 0, none⟩ (.string ((rd_T47 ((rd_T45 l0 x13_1).f3) x14_2).f0))).setCell ⟨gb207, 1, none⟩ (.string ((rd_T47 ((rd_T45 l0 x13_1).f3) x14_2).f1))).setCell ⟨gb207, 2, none⟩ (.int .i64 ((rd_T47 ((rd_T45 l0 x13_1).f3) x14_2).f2))) = w29 at n0_ n1_ n2_ n3_ n4_ ⊢
                 have HO_201004 := n0_
                 have BK197 := n1_
                 have BK200 := n2_
                 have BK207 := n3_
                 have HB := n4_
                 clear n0_ n1_ n2_ n3_ n4_
                 have n0_ := a_ (Kd.R_drew HO_201004.out)
                 have n1_ := a_ (blk_drew BK197.out)
                 have n2_ := a_ (blk_drew BK200.out)
                 have n3_ := a_ (blk_drew BK207.out)
                 have n4_ := a_ (below_drew1 HB.out)
                 clear HO_201004
                 clear BK197
                 clear BK200
                 clear BK207
                 clear HB
                 have HO_201004 := n0_
                 have BK197 := n1_
                 have BK200 := n2_
                 have BK207 := n3_
                 have HB := n4_
                 clear n0_ n1_ n2_ n3_ n4_
                 have p208 : 0 ≤ (x13_1 : Int) := of_decide_eq_true z67_
                 have q208 : x13_1 < (l0.length : Int) := of_decide_eq_true z67_
                 obtain ⟨ad208, A208_3, c208_3, e208, hx208_0, hx208_1, hx208_2, hx208_3, hl208_3, hi208_3⟩ := at_T45 HR0.out x13_1 p208 q208
                 have hw208_3 := hx208_3
                 have hw208_2 := hx208_2
                 have hw208_1 := hx208_1
                 have hw208_0 := hx208_0
                 obtain rfl : ad205 = ad208 := (by injection e208)
                 replace hx208_0 := (HB.out.cell (World.block_lt_of_cell? w _ hx208_0)).trans hx208_0
                 replace hx208_1 := (HB.out.cell (World.block_lt_of_cell? w _ hx208_1)).trans hx208_1
                 replace hx208_2 := (HB.out.cell (World.block_lt_of_cell? w _ hx208_2)).trans hx208_2
                 replace hx208_3 := (HB.out.cell (World.block_lt_of_cell? w _ hx208_3)).trans hx208_3
                 have HR208_3 := a_ hi208_3
                 have HC208_3 := a_ hl208_3
                 clear hi208_3 hl208_3
                 replace p208 := eq_true p208
                 replace q208 := eq_true q208
                 have p209 : 0 ≤ (x13_1 : Int) := of_decide_eq_true z67_
                 have q209 : x13_1 < (l0.length : Int) := of_decide_eq_true z67_
                 obtain ⟨ad209, A209_3, c209_3, e209, hx209_0, hx209_1, hx209_2, hx209_3, hl209_3, hi209_3⟩ := at_T45 HR0.out x13_1 p209 q209
                 have hw209_3 := hx209_3
                 have hw209_2 := hx209_2
                 have hw209_1 := hx209_1
                 have hw209_0 := hx209_0
                 obtain rfl : ad205 = ad209 := (by injection e209)
                 replace hx209_0 := (HB.out.cell (World.block_lt_of_cell? w _ hx209_0)).trans hx209_0
                 replace hx209_1 := (HB.out.cell (World.block_lt_of_cell? w _ hx209_1)).trans hx209_1
                 replace hx209_2 := (HB.out.cell (World.block_lt_of_cell? w _ hx209_2)).trans hx209_2
                 replace hx209_3 := (HB.out.cell (World.block_lt_of_cell? w _ hx209_3)).trans hx209_3
                 have HR209_3 := a_ hi209_3
                 have HC209_3 := a_ hl209_3
                 clear hi209_3 hl209_3
                 replace p209 := eq_true p209
                 replace q209 := eq_true q209
                 have ea_ := Option.some.inj (hx208_3.symm.trans hx209_3)
                 injection ea_ with ea_ en_ ec_
                 subst ea_
                 subst ec_
                 clear en_
                 refine start_ (n := 19) (S := fun w' => w'.cell? ⟨gb200, 0, none⟩ = some (.string a1) ∧ w'.cell? ⟨gb200, 1, none⟩ = some (.string a2) ∧ w'.cell? ⟨gb200, 2, none⟩ = some (.int .u64 a3) ∧ w'.cell? ⟨gb200, 3, none⟩ = some (.int .i64 t198) ∧ w'.cell? ⟨gb200, 4, none⟩ = some (u201004) ∧ w'.cell? ⟨gb200, 5, none⟩ = some (.int .i64 0) ∧ w'.cell? ⟨gb207, 0, none⟩ = some (.string ((rd_T47 ((rd_T45 l0 x13_1).f3) x14_2).f0)) ∧ w'.cell? ⟨gb207, 1, none⟩ = some (.string ((rd_T47 ((rd_T45 l0 x13_1).f3) x14_2).f1)) ∧ w'.cell? ⟨gb207, 2, none⟩ = some (.int .i64 ((rd_T47 ((rd_T45 l0 x13_1).f3) x14_2).f2)) ∧ w'.cell? (ad205.add ((x13_1).toNat * 4)) = some (.int .u64 ((rd_T45 l0 x13_1).f0)) ∧ w'.cell? ⟨(ad205.add ((x13_1).toNat * 4)).block, (ad205.add ((x13_1).toNat * 4)).off + 1, none⟩ = some (.int .u64 ((rd_T45 l0 x13_1).f1)) ∧ w'.cell? ⟨(ad205.add ((x13_1).toNat * 4)).block, (ad205.add ((x13_1).toNat * 4)).off + 2, none⟩ = some (.string ((rd_T45 l0 x13_1).f2)) ∧ w'.cell? ⟨(ad205.add ((x13_1).toNat * 4)).block, (ad205.add ((x13_1).toNat * 4)).off + 3, none⟩ = some (.slice A208_3 ((rd_T45 l0 x13_1).f3).length c208_3) ∧ w'.cell? (ad205.add ((x13_1).toNat * 4)) = some (.int .u64 ((rd_T45 l0 x13_1).f0)) ∧ w'.cell? ⟨(ad205.add ((x13_1).toNat * 4)).block, (ad205.add ((x13_1).toNat * 4)).off + 1, none⟩ = some (.int .u64 ((rd_T45 l0 x13_1).f1)) ∧ w'.cell? ⟨(ad205.add ((x13_1).toNat * 4)).block, (ad205.add ((x13_1).toNat * 4)).off + 2, none⟩ = some (.string ((rd_T45 l0 x13_1).f2)) ∧ w'.cell? ⟨(ad205.add ((x13_1).toNat * 4)).block, (ad205.add ((x13_1).toNat * 4)).off + 3, none⟩ = some (.slice A208_3 ((rd_T45 l0 x13_1).f3).length c208_3)) (ds := [18]) #[false, false, false, false, false, false, false, false, false, false, false, false, false, false, false, false, false, false, false] z71_ rfl rfl ⟨(blk_cell BK200.out 0).trans rfl, (blk_cell BK200.out 1).trans rfl, (blk_cell BK200.out 2).trans rfl, (blk_cell BK200.out 3).trans rfl, (blk_cell BK200.out 4).trans rfl, (blk_cell BK200.out 5).trans rfl, (blk_cell BK207.out 0).trans rfl, (blk_cell BK207.out 1).trans rfl, (blk_cell BK207.out 2).trans rfl, ((HB.out.cell (World.block_lt_of_cell? w _ hw208_0)).trans hw208_0), ((HB.out.cell (World.block_lt_of_cell? w _ hw208_1)).trans hw208_1), ((HB.out.cell (World.block_lt_of_cell? w _ hw208_2)).trans hw208_2), ((HB.out.cell (World.block_lt_of_cell? w _ hw208_3)).trans hw208_3), ((HB.out.cell (World.block_lt_of_cell? w _ hw209_0)).trans hw209_0), ((HB.out.cell (World.block_lt_of_cell? w _ hw209_1)).trans hw209_1), ((HB.out.cell (World.block_lt_of_cell? w _ hw209_2)).trans hw209_2), ((HB.out.cell (World.block_lt_of_cell? w _ hw209_3)).trans hw209_3)⟩ (fun hHeld => ?_); refine with_tabW cambistref19_Make.tab13 cambistref19_Make.bits13 (fun HT_ HW_ => ?_)
                 generalize w29.drew = w30 at HO_201004 BK197 BK200 BK207 HB HR208_3 HR209_3 hx208_0 hx208_1 hx208_2 hx208_3 hx209_0 hx209_1 hx209_2 hx209_3 hHeld ⊢
                 refine pure_ (i := 0) (N := some 78) (v := ?_) (a' := ?_) (fl_ 19 1) rfl rfl (any_of HT_.out z71_) (fun _ _ _ h => h) (Or.inl ⟨by rfl, ?_⟩) ?_ ?_
                 rotate_left
                 ·intro w'
                  go_simp
                  with_reducible rfl
                 rotate_left
                 ·simp only [Act.put, sT_, s0_, sS_, i64_w, i32_w]
                  rfl
                 refine pure_ (i := 2) (N := some 80) (v := ?_) (a' := ?_) (fl_ 19 5) rfl rfl (any_of HT_.out z71_) (fun _ _ _ h => h) (Or.inl ⟨by rfl, ?_⟩) ?_ ?_
                 rotate_left
                 ·intro w'
                  go_simp
                  with_reducible rfl
                 rotate_left
                 ·simp only [Act.put, sT_, s0_, sS_, i64_w, i32_w]
                  rfl
                 refine pure_ (i := 3) (N := some 81) (v := ?_) (a' := ?_) (fl_ 19 13) rfl rfl (any_of HT_.out z71_) (fun _ _ _ h => h) (Or.inl ⟨by rfl, ?_⟩) ?_ ?_
                 rotate_left
                 ·intro w'
                  go_simp
                  with_reducible rfl
                 rotate_left
                 ·simp only [Act.put, sT_, s0_, sS_, i64_w, i32_w]
                  rfl
                 refine pure_ (i := 4) (N := some 82) (v := ?_) (a' := ?_) (fl_ 19 29) rfl rfl (any_of HT_.out z71_) (fun _ _ _ h => h) (Or.inl ⟨by rfl, ?_⟩) ?_ ?_
                 rotate_left
                 ·intro w'
                  go_simp
                  with_reducible rfl
                 rotate_left
                 ·simp only [Act.put, sT_, s0_, sS_, i64_w, i32_w]
                  rfl
                 refine pure_ (i := 5) (N := some 83) (v := ?_) (a' := ?_) (fl_ 19 61) rfl rfl (any_of HT_.out z71_) (fun _ _ _ h => h) (Or.inl ⟨by rfl, ?_⟩) ?_ ?_
                 rotate_left
                 ·intro w'
                  go_simp
                  with_reducible rfl
                 rotate_left
                 ·simp only [Act.put, sT_, s0_, sS_, i64_w, i32_w]
                  rfl
                 refine pure_ (i := 7) (N := some 85) (v := ?_) (a' := ?_) (fl_ 19 189) rfl rfl (any_of HT_.out z71_) (fun _ _ _ h => h) (Or.inl ⟨by rfl, ?_⟩) ?_ ?_
                 rotate_left
                 ·intro w'
                  go_simp
                  with_reducible rfl
                 rotate_left
                 ·simp only [Act.put, sT_, s0_, sS_, i64_w, i32_w]
                  rfl
                 refine pure_ (i := 8) (N := some 86) (v := ?_) (a' := ?_) (fl_ 19 445) rfl rfl (any_of HT_.out z71_) (fun _ _ _ h => h) (Or.inl ⟨by rfl, ?_⟩) ?_ ?_
                 rotate_left
                 ·intro w'
                  go_simp
                  with_reducible rfl
                 rotate_left
                 ·simp only [Act.put, sT_, s0_, sS_, i64_w, i32_w]
                  rfl
                 refine pure_ (i := 9) (N := some 87) (v := ?_) (a' := ?_) (fl_ 19 957) rfl rfl (any_of HT_.out z71_) (fun _ _ _ h => h) (Or.inl ⟨by rfl, ?_⟩) ?_ ?_
                 rotate_left
                 ·intro w'
                  go_simp
                  with_reducible rfl
                 rotate_left
                 ·simp only [Act.put, sT_, s0_, sS_, i64_w, i32_w]
                  rfl
                 refine pure_ (i := 10) (N := some 88) (v := ?_) (a' := ?_) (fl_ 19 1981) rfl rfl (any_of HT_.out z71_) (fun _ _ _ h => h) (Or.inl ⟨by rfl, ?_⟩) ?_ ?_
                 rotate_left
                 ·intro w'
                  go_simp
                  with_reducible rfl
                 rotate_left
                 ·simp only [Act.put, sT_, s0_, sS_, i64_w, i32_w]
                  rfl
                 refine pure_ (i := 12) (N := some 90) (v := ?_) (a' := ?_) (fl_ 19 6077) rfl rfl (any_of HT_.out z71_) (fun _ _ _ h => h) (Or.inl ⟨by rfl, ?_⟩) ?_ ?_
                 rotate_left
                 ·intro w'
                  go_simp
                  with_reducible rfl
                 rotate_left
                 ·simp only [Act.put, sT_, s0_, sS_, i64_w, i32_w]
                  rfl
                 refine take_ (i := 1) (N := some 79) (v := ?_) (a' := ?_) (fl_ 19 6079) rfl rfl (take_ofW HT_.out HW_.out z71_) (fun _ _ _ h => h) (Or.inl ⟨by rfl, ?_⟩) hHeld ?_ ?_
                 rotate_left
                 ·rintro w' ⟨s0, s1, s2, s3, s4, s5, s6, s7, s8, s9, s10, s11, s12, s13, s14, s15, s16⟩
                  go_simp
                  with_reducible rfl
                 rotate_left
                 ·simp only [Act.put, sT_, s0_, sS_, i64_w, i32_w]
                  rfl
                 refine take_ (i := 6) (N := some 84) (v := ?_) (a' := ?_) (fl_ 19 6143) rfl rfl (take_ofW HT_.out HW_.out z71_) (fun _ _ _ h => h) (Or.inl ⟨by rfl, ?_⟩) hHeld ?_ ?_
                 rotate_left
                 ·rintro w' ⟨s0, s1, s2, s3, s4, s5, s6, s7, s8, s9, s10, s11, s12, s13, s14, s15, s16⟩
                  go_simp
                  with_reducible rfl
                 rotate_left
                 ·simp only [Act.put, sT_, s0_, sS_, i64_w, i32_w]
                  rfl
                 refine take_ (i := 11) (N := some 89) (v := ?_) (a' := ?_) (fl_ 19 8191) rfl rfl (take_ofW HT_.out HW_.out z71_) (fun _ _ _ h => h) (Or.inl ⟨by rfl, ?_⟩) hHeld ?_ ?_
                 rotate_left
                 ·rintro w' ⟨s0, s1, s2, s3, s4, s5, s6, s7, s8, s9, s10, s11, s12, s13, s14, s15, s16⟩
                  go_simp
                  with_reducible rfl
                 rotate_left
                 ·simp only [Act.put, sT_, s0_, sS_, i64_w, i32_w]
                  rfl
                 refine take_ (i := 13) (N := some 91) (v := ?_) (a' := ?_) (fl_ 19 16383) rfl rfl (take_ofW HT_.out HW_.out z71_) (fun _ _ _ h => h) (Or.inl ⟨by rfl, ?_⟩) hHeld ?_ ?_
                 rotate_left
                 ·rintro w' ⟨s0, s1, s2, s3, s4, s5, s6, s7, s8, s9, s10, s11, s12, s13, s14, s15, s16⟩
                  go_simp
                  with_reducible rfl
                 rotate_left
                 ·simp only [Act.put, sT_, s0_, sS_, i64_w, i32_w]
                  rfl
                 refine pure_ (i := 14) (N := some 92) (v := ?_) (a' := ?_) (fl_ 19 32767) rfl rfl (any_of HT_.out z71_) (fun _ _ _ h => h) (Or.inl ⟨by rfl, ?_⟩) ?_ ?_
                 rotate_left
                 ·intro w'
                  go_simp
                  with_reducible rfl
                 rotate_left
                 ·simp only [Act.put, sT_, s0_, sS_, i64_w, i32_w]
                  rfl
                 refine one_ (i := 15) (N := some 93) (fl_ 19 65535) rfl rfl (one_of HT_.out z71_) (by decide) (fun K hK => ?_)
                 refine value_ (w1 := ?_) (v := ?_) (by rfl) rfl ?_ ?_
                 rotate_left 2
                 ·go_simp
                  constructor
                  ·rfl
                  ·rfl
                 refine hK.out _ _ ⟨(blk_cell (blk_alloc BK200.out _) 0).trans rfl, (blk_cell (blk_alloc BK200.out _) 1).trans rfl, (blk_cell (blk_alloc BK200.out _) 2).trans rfl, (blk_cell (blk_alloc BK200.out _) 3).trans rfl, (blk_cell (blk_alloc BK200.out _) 4).trans rfl, (blk_cell (blk_alloc BK200.out _) 5).trans rfl, (blk_cell (blk_alloc BK207.out _) 0).trans rfl, (blk_cell (blk_alloc BK207.out _) 1).trans rfl, (blk_cell (blk_alloc BK207.out _) 2).trans rfl, (World.cell?_alloc_lt _ _ _ (World.block_lt_of_cell? _ _ (((HB.out.cell (World.block_lt_of_cell? w _ hw208_0)).trans hw208_0)))).trans (((HB.out.cell (World.block_lt_of_cell? w _ hw208_0)).trans hw208_0)), (World.cell?_alloc_lt _ _ _ (World.block_lt_of_cell? _ _ (((HB.out.cell (World.block_lt_of_cell? w _ hw208_1)).trans hw208_1)))).trans (((HB.out.cell (World.block_lt_of_cell? w _ hw208_1)).trans hw208_1)), (World.cell?_alloc_lt _ _ _ (World.block_lt_of_cell? _ _ (((HB.out.cell (World.block_lt_of_cell? w _ hw208_2)).trans hw208_2)))).trans (((HB.out.cell (World.block_lt_of_cell? w _ hw208_2)).trans hw208_2)), (World.cell?_alloc_lt _ _ _ (World.block_lt_of_cell? _ _ (((HB.out.cell (World.block_lt_of_cell? w _ hw208_3)).trans hw208_3)))).trans (((HB.out.cell (World.block_lt_of_cell? w _ hw208_3)).trans hw208_3)), (World.cell?_alloc_lt _ _ _ (World.block_lt_of_cell? _ _ (((HB.out.cell (World.block_lt_of_cell? w _ hw209_0)).trans hw209_0)))).trans (((HB.out.cell (World.block_lt_of_cell? w _ hw209_0)).trans hw209_0)), (World.cell?_alloc_lt _ _ _ (World.block_lt_of_cell? _ _ (((HB.out.cell (World.block_lt_of_cell? w _ hw209_1)).trans hw209_1)))).trans (((HB.out.cell (World.block_lt_of_cell? w _ hw209_1)).trans hw209_1)), (World.cell?_alloc_lt _ _ _ (World.block_lt_of_cell? _ _ (((HB.out.cell (World.block_lt_of_cell? w _ hw209_2)).trans hw209_2)))).trans (((HB.out.cell (World.block_lt_of_cell? w _ hw209_2)).trans hw209_2)), (World.cell?_alloc_lt _ _ _ (World.block_lt_of_cell? _ _ (((HB.out.cell (World.block_lt_of_cell? w _ hw209_3)).trans hw209_3)))).trans (((HB.out.cell (World.block_lt_of_cell? w _ hw209_3)).trans hw209_3))⟩ (fun hHeld => ?_)
                 clear hK K
                 refine norm_ (a' := ?_) ?_ ?_
                 rotate_left
                 ·show Act.put _ (some 93) _ = _
                  simp only [Act.put, sT_, s0_, sS_, i64_w, i32_w]
                  rfl
                 refine one_ (i := 16) (N := some 94) (fl_ 19 131071) rfl rfl (one_of HT_.out z71_) (by decide) (fun K hK => ?_)
                 refine Kd.R_append_step k49 (w0 := w) w.heap.size (by rfl) (.tmp 79) (.tmp 93) 26 49 (.agg #[(.int .u64 0), (.string ⟨#[]⟩), (.int .i64 0)]) 32 rfl Tryd.underlying26 info49 rfl (by decide) (by omega) u201004 x201004_2 (⟨(rd_T45 l0 x13_1).f0, (rd_T45 l0 x13_1).f2, (rd_T47 ((rd_T45 l0 x13_1).f3) x14_2).f2⟩ : S49) [.int .u64 ((rd_T45 l0 x13_1).f0), .string ((rd_T45 l0 x13_1).f2), .int .i64 ((rd_T47 ((rd_T45 l0 x13_1).f3) x14_2).f2)] (fun _ => True) (fun _ => False) rfl rfl ?aP (fun _ hk => hk.elim) ?aF ?aO ?aB ?aS ?aL ?_
                 (case aP => exact k49_mkM _ _ _ (⟨(rd_T45 l0 x13_1).f0, (rd_T45 l0 x13_1).f2, (rd_T47 ((rd_T45 l0 x13_1).f3) x14_2).f2⟩ : S49))
                 (case aB => exact z14_)
                 (case aF => exact (fun _ _ => trivial))
                 (case aO => exact z37_)
                 (case aS => exact (below_size z14_))
                 (case aL => have := LMc24.out; omega)
                 intro v211 w31 ho hb hg hat
                 rw [← Ny210.out] at ho
                 have n0_ := a_ (blk_grown (g := gb197) (o := .cells #[.string (⟨#[]⟩ : ByteArray), .string (⟨#[]⟩ : ByteArray), .int .u64 0, .int .i64 0, .slice none 0 0, .int .i64 0] 28 (0, 0)) z53_ hg (Kd.R_ne HO_201004.out BK197.out (by decide)))
                 have n1_ := a_ (blk_grown (g := gb200) (o := .cells #[.string a1, .string a2, .int .u64 a3, .int .i64 t198, u201004, .int .i64 0] 28 (0, 0)) z54_ hg (Kd.R_ne HO_201004.out BK200.out (by decide)))
                 have n2_ := a_ (blk_grown (g := gb207) (o := .cells #[.string ((rd_T47 ((rd_T45 l0 x13_1).f3) x14_2).f0), .string ((rd_T47 ((rd_T45 l0 x13_1).f3) x14_2).f1), .int .i64 ((rd_T47 ((rd_T45 l0 x13_1).f3) x14_2).f2)] 47 (0, 0)) (by (with_reducible repeat (first | refine kN_ ?_ _ | refine kD_ ?_ | refine kA_ ?_ _)); exact BK207.out) hg (Kd.R_ne HO_201004.out BK207.out (by decide)))
                 have n3_ := a_ (hb)
                 have n4_ := a_ (ho)
                 clear BK197
                 clear BK200
                 clear BK207
                 clear HB
                 clear HO_201004
                 have BK197 := n0_
                 have BK200 := n1_
                 have BK207 := n2_
                 have HB := n3_
                 have HO212 := n4_
                 clear n0_ n1_ n2_ n3_ n4_
                 clear ho hb hg hat
                 obtain ⟨Ao32, co32, eo32⟩ := Kd.R_slice HO212.out
                 (first | subst eo32 | (injection eo32 with f1_ f2_ f3_; have f4_ := f1_.symm; have f5_ := f3_.symm; clear f1_ f2_ f3_; subst f4_; subst f5_))
                 refine hK.out _ _ ⟨(blk_cell BK200.out 0).trans rfl, (blk_cell BK200.out 1).trans rfl, (blk_cell BK200.out 2).trans rfl, (blk_cell BK200.out 3).trans rfl, (blk_cell BK200.out 4).trans rfl, (blk_cell BK200.out 5).trans rfl, (blk_cell BK207.out 0).trans rfl, (blk_cell BK207.out 1).trans rfl, (blk_cell BK207.out 2).trans rfl, ((HB.out.cell (World.block_lt_of_cell? w _ hw208_0)).trans hw208_0), ((HB.out.cell (World.block_lt_of_cell? w _ hw208_1)).trans hw208_1), ((HB.out.cell (World.block_lt_of_cell? w _ hw208_2)).trans hw208_2), ((HB.out.cell (World.block_lt_of_cell? w _ hw208_3)).trans hw208_3), ((HB.out.cell (World.block_lt_of_cell? w _ hw209_0)).trans hw209_0), ((HB.out.cell (World.block_lt_of_cell? w _ hw209_1)).trans hw209_1), ((HB.out.cell (World.block_lt_of_cell? w _ hw209_2)).trans hw209_2), ((HB.out.cell (World.block_lt_of_cell? w _ hw209_3)).trans hw209_3)⟩ (fun hHeld => ?_)
                 clear hK K
                 refine norm_ (a' := ?_) ?_ ?_
                 rotate_left
                 ·show Act.put _ (some 94) _ = _
                  simp only [Act.put, sT_, s0_, sS_, i64_w, i32_w]
                  rfl
                 refine pure_ (i := 17) (N := some 95) (v := ?_) (a' := ?_) (fl_ 19 262143) rfl rfl (any_of HT_.out z71_) (fun _ _ _ h => h) (Or.inl ⟨by rfl, ?_⟩) ?_ ?_
                 rotate_left
                 ·intro w'
                  go_simp
                  with_reducible rfl
                 rotate_left
                 ·simp only [Act.put, sT_, s0_, sS_, i64_w, i32_w]
                  rfl
                 refine last_ (i := 18) (N := none) #[true, true, true, true, true, true, true, true, true, true, true, true, true, true, true, true, true, true, true] rfl rfl (one_of HT_.out z71_) (by decide) (fun K hK => ?_)
                 have hs33 : w31.cell? ⟨gb200, 4, none⟩ = some (u201004) := (blk_cell BK200.out 4).trans rfl
                 have hfs33 := blk_frozen BK200.out 4
                 have hns33_0 := NB197_200.out
                 have hns33_2 := NB207_200.out
                 have hms33_0 := NB200_197.out
                 have hms33_2 := NB200_207.out
                 refine skip_ (w1 := ?_) (by rfl) rfl ?_ ?_
                 rotate_left
                 ·go_simp
                  rfl
                 refine hK.out _ _ ?_
                 clear hK K
                 refine done_ (done_of HT_.out z71_) ?_
                 try go_wp2
                 go_roundg kj12
                 case measure => have := HK1.out; have := HK2.out; have := HJ12.out; omega
                 case rel => exact ⟨(wrap64 (x14_2 + 1)), (y210), (.slice Ao32 y210.length co32), z68_, H', ⟨z64_⟩, ⟨by (with_reducible repeat (first | apply Kd.R_alloc | apply Kd.R_drewN | apply Kd.R_drew)); exact Kd.R_mono (Kd.R_far (p := ⟨gb200, 4, none⟩) (Kd.R_types HO212.out BK200.out (by decide)) (fun _ hk => hk.2) (.slice Ao32 y210.length co32)) (fun _ hk => trivial)⟩, ⟨by (with_reducible repeat (first | refine kN_ ?_ _ | refine kD_ ?_ | refine kA_ ?_ _)); refine blk_far ?_ NB197_200.out _; (with_reducible repeat (first | refine kN_ ?_ _ | refine kD_ ?_ | refine kA_ ?_ _)); exact BK197.out⟩, ⟨by (with_reducible repeat (first | refine kN_ ?_ _ | refine kD_ ?_ | refine kA_ ?_ _)); refine blk_put (cs := #[.string a1, .string a2, .int .u64 a3, .int .i64 t198, u201004, .int .i64 0]) ?_ 4 _ rfl; (with_reducible repeat (first | refine kN_ ?_ _ | refine kD_ ?_ | refine kA_ ?_ _)); exact BK200.out⟩, ⟨z14_⟩⟩
                ·rw [if_neg c24] at H
                 exact absurd H (by simp)
               ·rw [if_neg c23] at H
                have c23b0 : (((rd_T47 ((rd_T45 l0 x13_1).f3) x14_2).f1).toList == a2.toList) = false := beq_eq_false_iff_ne.mpr c23
                have c23b1 : (((rd_T47 ((rd_T45 l0 x13_1).f3) x14_2).f1).toList != a2.toList) = true := bne_iff_ne.mpr c23
                have H' := a_ H
                clear H
                have p205 : 0 ≤ (x13_1 : Int) := of_decide_eq_true z67_
                have q205 : x13_1 < (l0.length : Int) := of_decide_eq_true z67_
                obtain ⟨ad205, A205_3, c205_3, e205, hx205_0, hx205_1, hx205_2, hx205_3, hl205_3, hi205_3⟩ := at_T45 HR0.out x13_1 p205 q205
                cases e205
                replace hx205_0 := (HB.out.cell (World.block_lt_of_cell? w _ hx205_0)).trans hx205_0
                replace hx205_1 := (HB.out.cell (World.block_lt_of_cell? w _ hx205_1)).trans hx205_1
                replace hx205_2 := (HB.out.cell (World.block_lt_of_cell? w _ hx205_2)).trans hx205_2
                replace hx205_3 := (HB.out.cell (World.block_lt_of_cell? w _ hx205_3)).trans hx205_3
                have HR205_3 := a_ hi205_3
                have HC205_3 := a_ hl205_3
                clear hi205_3 hl205_3
                replace p205 := eq_true p205
                replace q205 := eq_true q205
                have p206 : 0 ≤ (x14_2 : Int) := of_decide_eq_true z67_
                have q206 : x14_2 < (((rd_T45 l0 x13_1).f3).length : Int) := of_decide_eq_true z67_
                obtain ⟨ad206, e206, hx206_0, hx206_1, hx206_2⟩ := at_T47 HR205_3.out x14_2 p206 q206
                cases e206
                replace hx206_0 := (HB.out.cell (World.block_lt_of_cell? w _ hx206_0)).trans hx206_0
                replace hx206_1 := (HB.out.cell (World.block_lt_of_cell? w _ hx206_1)).trans hx206_1
                replace hx206_2 := (HB.out.cell (World.block_lt_of_cell? w _ hx206_2)).trans hx206_2
                replace p206 := eq_true p206
                replace q206 := eq_true q206
                go_wp2_with (first | ((with_reducible refine gate_dst (N := 15) rfl ?_); refine box_event ?hg (N := 15) ?hd (cs := #[.string (⟨#[]⟩ : ByteArray), .string (⟨#[]⟩ : ByteArray), .int .i64 0]) (t := 47) ?hr ?_; (case hd => rfl); (case hg => rfl); (case hr => first | (go_simp; done) | (go_simp; rfl)); intro gb207 hg w34 hbox hb; have n0_ := a_ (Kd.R_below z37_ hb); have n1_ := a_ (blk_below (g := gb197) (o := .cells #[.string (⟨#[]⟩ : ByteArray), .string (⟨#[]⟩ : ByteArray), .int .u64 0, .int .i64 0, .slice none 0 0, .int .i64 0] 28 (0, 0)) z53_ hb); have n2_ := a_ (blk_below (g := gb200) (o := .cells #[.string a1, .string a2, .int .u64 a3, .int .i64 t198, u201004, .int .i64 0] 28 (0, 0)) z54_ hb); have n3_ := a_ (below_step z21_ hb); have n4_ := a_ (hbox); have n5_ := a_ ((z13_ : w.heap.size ≤ gb207)); have n6_ := a_ ((z13_ : w.heap.size ≤ gb207)); have n7_ := a_ ((by rw [hg]; exact Nat.ne_of_lt (blk_lt (g := gb197) (o := .cells #[.string (⟨#[]⟩ : ByteArray), .string (⟨#[]⟩ : ByteArray), .int .u64 0, .int .i64 0, .slice none 0 0, .int .i64 0] 28 (0, 0)) z53_) : gb197 ≠ gb207)); have n8_ := a_ ((by rw [hg]; exact Nat.ne_of_gt (blk_lt (g := gb197) (o := .cells #[.string (⟨#[]⟩ : ByteArray), .string (⟨#[]⟩ : ByteArray), .int .u64 0, .int .i64 0, .slice none 0 0, .int .i64 0] 28 (0, 0)) z53_) : gb207 ≠ gb197)); have n9_ := a_ ((by rw [hg]; exact Nat.ne_of_lt (blk_lt (g := gb200) (o := .cells #[.string a1, .string a2, .int .u64 a3, .int .i64 t198, u201004, .int .i64 0] 28 (0, 0)) z54_) : gb200 ≠ gb207)); have n10_ := a_ ((by rw [hg]; exact Nat.ne_of_gt (blk_lt (g := gb200) (o := .cells #[.string a1, .string a2, .int .u64 a3, .int .i64 t198, u201004, .int .i64 0] 28 (0, 0)) z54_) : gb207 ≠ gb200)); clear HO_201004; clear BK197; clear BK200; clear HB; have HO_201004 := n0_; have BK197 := n1_; have BK200 := n2_; have HB := n3_; have BK207 := n4_; have GW207 := n5_; have GE207 := n6_; have NB197_207 := n7_; have NB207_197 := n8_; have NB200_207 := n9_; have NB207_200 := n10_; clear n0_ n1_ n2_ n3_ n4_ n5_ n6_ n7_ n8_ n9_ n10_; clear hb hbox hg; have hnb35 := NB207_197.out; have hnc35 := NB197_207.out; have hnb36 := NB207_200.out; have hnc36 := NB200_207.out; have hcz37_0 : w34.cell? ⟨gb207, 0, none⟩ = some (.string (⟨#[]⟩ : ByteArray)) := (blk_cell BK207.out 0).trans rfl; have hcz37_1 : w34.cell? ⟨gb207, 1, none⟩ = some (.string (⟨#[]⟩ : ByteArray)) := (blk_cell BK207.out 1).trans rfl; have hcz37_2 : w34.cell? ⟨gb207, 2, none⟩ = some (.int .i64 0) := (blk_cell BK207.out 2).trans rfl; have hfz37_0 := blk_frozen BK207.out 0; have hfz37_1 := blk_frozen BK207.out 1; have hfz37_2 := blk_frozen BK207.out 2))
                go_roundg kj12
                case measure => have := HK1.out; have := HK2.out; have := HJ12.out; omega
                case rel => exact ⟨(wrap64 (x14_2 + 1)), (x201004_2), (u201004), z68_, H', ⟨z64_⟩, ⟨z2_⟩, ⟨z6_⟩, ⟨z7_⟩, ⟨z14_⟩⟩
              ·rw [if_neg c22] at H
               have c22b0 : (((rd_T47 ((rd_T45 l0 x13_1).f3) x14_2).f0).toList == a1.toList) = false := beq_eq_false_iff_ne.mpr c22
               have c22b1 : (((rd_T47 ((rd_T45 l0 x13_1).f3) x14_2).f0).toList != a1.toList) = true := bne_iff_ne.mpr c22
               have H' := a_ H
               clear H
               have p205 : 0 ≤ (x13_1 : Int) := of_decide_eq_true z67_
               have q205 : x13_1 < (l0.length : Int) := of_decide_eq_true z67_
               obtain ⟨ad205, A205_3, c205_3, e205, hx205_0, hx205_1, hx205_2, hx205_3, hl205_3, hi205_3⟩ := at_T45 HR0.out x13_1 p205 q205
               cases e205
               replace hx205_0 := (HB.out.cell (World.block_lt_of_cell? w _ hx205_0)).trans hx205_0
               replace hx205_1 := (HB.out.cell (World.block_lt_of_cell? w _ hx205_1)).trans hx205_1
               replace hx205_2 := (HB.out.cell (World.block_lt_of_cell? w _ hx205_2)).trans hx205_2
               replace hx205_3 := (HB.out.cell (World.block_lt_of_cell? w _ hx205_3)).trans hx205_3
               have HR205_3 := a_ hi205_3
               have HC205_3 := a_ hl205_3
               clear hi205_3 hl205_3
               replace p205 := eq_true p205
               replace q205 := eq_true q205
               have p206 : 0 ≤ (x14_2 : Int) := of_decide_eq_true z67_
               have q206 : x14_2 < (((rd_T45 l0 x13_1).f3).length : Int) := of_decide_eq_true z67_
               obtain ⟨ad206, e206, hx206_0, hx206_1, hx206_2⟩ := at_T47 HR205_3.out x14_2 p206 q206
               cases e206
               replace hx206_0 := (HB.out.cell (World.block_lt_of_cell? w _ hx206_0)).trans hx206_0
               replace hx206_1 := (HB.out.cell (World.block_lt_of_cell? w _ hx206_1)).trans hx206_1
               replace hx206_2 := (HB.out.cell (World.block_lt_of_cell? w _ hx206_2)).trans hx206_2
               replace p206 := eq_true p206
               replace q206 := eq_true q206
               go_wp2_with (first | ((with_reducible refine gate_dst (N := 15) rfl ?_); refine box_event ?hg (N := 15) ?hd (cs := #[.string (⟨#[]⟩ : ByteArray), .string (⟨#[]⟩ : ByteArray), .int .i64 0]) (t := 47) ?hr ?_; (case hd => rfl); (case hg => rfl); (case hr => first | (go_simp; done) | (go_simp; rfl)); intro gb207 hg w38 hbox hb; have n0_ := a_ (Kd.R_below z37_ hb); have n1_ := a_ (blk_below (g := gb197) (o := .cells #[.string (⟨#[]⟩ : ByteArray), .string (⟨#[]⟩ : ByteArray), .int .u64 0, .int .i64 0, .slice none 0 0, .int .i64 0] 28 (0, 0)) z53_ hb); have n2_ := a_ (blk_below (g := gb200) (o := .cells #[.string a1, .string a2, .int .u64 a3, .int .i64 t198, u201004, .int .i64 0] 28 (0, 0)) z54_ hb); have n3_ := a_ (below_step z21_ hb); have n4_ := a_ (hbox); have n5_ := a_ ((z13_ : w.heap.size ≤ gb207)); have n6_ := a_ ((z13_ : w.heap.size ≤ gb207)); have n7_ := a_ ((by rw [hg]; exact Nat.ne_of_lt (blk_lt (g := gb197) (o := .cells #[.string (⟨#[]⟩ : ByteArray), .string (⟨#[]⟩ : ByteArray), .int .u64 0, .int .i64 0, .slice none 0 0, .int .i64 0] 28 (0, 0)) z53_) : gb197 ≠ gb207)); have n8_ := a_ ((by rw [hg]; exact Nat.ne_of_gt (blk_lt (g := gb197) (o := .cells #[.string (⟨#[]⟩ : ByteArray), .string (⟨#[]⟩ : ByteArray), .int .u64 0, .int .i64 0, .slice none 0 0, .int .i64 0] 28 (0, 0)) z53_) : gb207 ≠ gb197)); have n9_ := a_ ((by rw [hg]; exact Nat.ne_of_lt (blk_lt (g := gb200) (o := .cells #[.string a1, .string a2, .int .u64 a3, .int .i64 t198, u201004, .int .i64 0] 28 (0, 0)) z54_) : gb200 ≠ gb207)); have n10_ := a_ ((by rw [hg]; exact Nat.ne_of_gt (blk_lt (g := gb200) (o := .cells #[.string a1, .string a2, .int .u64 a3, .int .i64 t198, u201004, .int .i64 0] 28 (0, 0)) z54_) : gb207 ≠ gb200)); clear HO_201004; clear BK197; clear BK200; clear HB; have HO_201004 := n0_; have BK197 := n1_; have BK200 := n2_; have HB := n3_; have BK207 := n4_; have GW207 := n5_; have GE207 := n6_; have NB197_207 := n7_; have NB207_197 := n8_; have NB200_207 := n9_; have NB207_200 := n10_; clear n0_ n1_ n2_ n3_ n4_ n5_ n6_ n7_ n8_ n9_ n10_; clear hb hbox hg; have hnb39 := NB207_197.out; have hnc39 := NB197_207.out; have hnb40 := NB207_200.out; have hnc40 := NB200_207.out; have hcz41_0 : w38.cell? ⟨gb207, 0, none⟩ = some (.string (⟨#[]⟩ : ByteArray)) := (blk_cell BK207.out 0).trans rfl; have hcz41_1 : w38.cell? ⟨gb207, 1, none⟩ = some (.string (⟨#[]⟩ : ByteArray)) := (blk_cell BK207.out 1).trans rfl; have hcz41_2 : w38.cell? ⟨gb207, 2, none⟩ = some (.int .i64 0) := (blk_cell BK207.out 2).trans rfl; have hfz41_0 := blk_frozen BK207.out 0; have hfz41_1 := blk_frozen BK207.out 1; have hfz41_2 := blk_frozen BK207.out 2))
               go_roundg kj12
               case measure => have := HK1.out; have := HK2.out; have := HJ12.out; omega
               case rel => exact ⟨(wrap64 (x14_2 + 1)), (x201004_2), (u201004), z68_, H', ⟨z64_⟩, ⟨z2_⟩, ⟨z6_⟩, ⟨z7_⟩, ⟨z14_⟩⟩
             ·rw [if_neg c21] at H
              exact absurd H (by simp)
            ·rw [if_neg c20] at H
             exact absurd H (by simp)
           ·rw [if_neg c19] at H
            exact absurd H (by simp)
          ·rw [if_neg c18] at H
           exact absurd H (by simp)
         ·replace c17 := Bool.eq_false_iff.mpr c17
          subst c17
          have H1 : (cambistref19_Make.l0 kj12 l0 a1 a2 a3 (wrap64 (x13_1 + 1)) a1 a2 a3 t198 x201004_2 0) = some (r1, r2, r3, r4, r5, r6, r7) := by rw [if_neg (show ¬ (false = true) by decide)] at H; exact H
          clear H
          have H := H1
          clear H1
          have H' := a_ H
          clear H
          go_wp2
          go_roundg kj12
          case measure => have := HK1.out; have := HK2.out; have := HJ12.out; omega
          case rel => exact ⟨(wrap64 (x13_1 + 1)), (x201004_2), (u201004), z68_, H', ⟨z64_⟩, ⟨z37_⟩, ⟨z53_⟩, ⟨z54_⟩, ⟨z21_⟩⟩
    ·rw [if_neg c12] at H
     have c12b0 : decide (x13_1 < (l0.length : Int)) = false := decide_eq_false c12
     clear c12
     replace H := Option.bind_eq_some_iff.mp H
     obtain ⟨⟨t201, t202⟩, A420, H⟩ := H
     replace H : (if t202 = 0 then (some (a1, a2, a3, t198, x201004_1, t201, 0)) else (some ((⟨#[]⟩ : ByteArray), (⟨#[]⟩ : ByteArray), 0, 0, ([] : List (S49)), 0, t202))) = some (r1, r2, r3, r4, r5, r6, r7) := H
     have A42 := a_ A420
     clear A420
     by_cases c43 : t202 = 0
     ·rw [if_pos c43] at H
      have c43b0 : (t202 == 0) = true := beq_iff_eq.mpr c43
      have c43b1 : (t202 != 0) = false := bne_eq_false_iff_eq.mpr c43
      clear c43
      simp only [Option.some.injEq, Prod.mk.injEq] at H
      obtain ⟨rfl, rfl, rfl, rfl, rfl, rfl, rfl⟩ := H
      have hnb44 := NB200_197.out
      have hnc44 := NB197_200.out
      have hcz45_0 : wr.cell? ⟨gb200, 0, none⟩ = some (.string a1) := (blk_cell BK200.out 0).trans rfl
      have hcz45_1 : wr.cell? ⟨gb200, 1, none⟩ = some (.string a2) := (blk_cell BK200.out 1).trans rfl
      have hcz45_2 : wr.cell? ⟨gb200, 2, none⟩ = some (.int .u64 a3) := (blk_cell BK200.out 2).trans rfl
      have hcz45_3 : wr.cell? ⟨gb200, 3, none⟩ = some (.int .i64 t198) := (blk_cell BK200.out 3).trans rfl
      have hcz45_4 : wr.cell? ⟨gb200, 4, none⟩ = some (u201004) := (blk_cell BK200.out 4).trans rfl
      have hcz45_5 : wr.cell? ⟨gb200, 5, none⟩ = some (.int .i64 0) := (blk_cell BK200.out 5).trans rfl
      have hfz45_0 := blk_frozen BK200.out 0
      have hfz45_1 := blk_frozen BK200.out 1
      have hfz45_2 := blk_frozen BK200.out 2
      have hfz45_3 := blk_frozen BK200.out 3
      have hfz45_4 := blk_frozen BK200.out 4
      have hfz45_5 := blk_frozen BK200.out 5
      obtain ⟨Ao46, co46, eo46⟩ := Kd.R_slice HO_201004.out
      subst eo46
      go_wp2_with (first | ((with_reducible refine gate_callee (f := 21) rfl ?_); refine goesL_ (some 98) rfl rfl Tryd.func21 z71_ rfl #[.agg #[.string a1, .string a2, .int .u64 a3, .int .i64 t198, .slice Ao46 x201004_1.length co46, .int .i64 0]] rfl z26_ ?_; (with_reducible refine (cambistref19_whole.calls k1 a1 a2 a3 t198 _ _ x201004_1 0 t201 t202 _ ?side1 ?side2 ?side3 A42.out).mono ?_); (case side1 => exact Glob.below HG.out z21_); (case side2 => repeat (first | exact (Kd.R_reads' HO_201004.out).2.2 | (with_reducible refine Kd.C_alloc ?_ _) | (with_reducible refine Kd.C_drewN ?_ _) | (with_reducible refine Kd.C_drew ?_))); (case side3 => exact (Kd.R_reads' HO_201004.out).2.1); rintro e w47 ⟨rfl, hb⟩; refine ⟨_, rfl, ?_⟩; have n0_ := a_ (Kd.R_below z37_ hb); have n1_ := a_ (blk_below (g := gb197) (o := .cells #[.string (⟨#[]⟩ : ByteArray), .string (⟨#[]⟩ : ByteArray), .int .u64 0, .int .i64 0, .slice none 0 0, .int .i64 0] 28 (0, 0)) z53_ hb); have n2_ := a_ (blk_below (g := gb200) (o := .cells #[.string a1, .string a2, .int .u64 a3, .int .i64 t198, .slice Ao46 x201004_1.length co46, .int .i64 0] 28 (0, 0)) z54_ hb); have n3_ := a_ (below_step z21_ hb); clear HO_201004; clear BK197; clear BK200; clear HB; have HO_201004 := n0_; have BK197 := n1_; have BK200 := n2_; have HB := n3_; clear n0_ n1_ n2_ n3_; (try clear hb); (try clear hb2); (try clear hk); (try clear hi); have hcz48_0 : w47.cell? ⟨gb200, 0, none⟩ = some (.string a1) := (blk_cell BK200.out 0).trans rfl; have hcz48_1 : w47.cell? ⟨gb200, 1, none⟩ = some (.string a2) := (blk_cell BK200.out 1).trans rfl; have hcz48_2 : w47.cell? ⟨gb200, 2, none⟩ = some (.int .u64 a3) := (blk_cell BK200.out 2).trans rfl; have hcz48_3 : w47.cell? ⟨gb200, 3, none⟩ = some (.int .i64 t198) := (blk_cell BK200.out 3).trans rfl; have hcz48_4 : w47.cell? ⟨gb200, 4, none⟩ = some (.slice Ao46 x201004_1.length co46) := (blk_cell BK200.out 4).trans rfl; have hcz48_5 : w47.cell? ⟨gb200, 5, none⟩ = some (.int .i64 0) := (blk_cell BK200.out 5).trans rfl; have hfz48_0 := blk_frozen BK200.out 0; have hfz48_1 := blk_frozen BK200.out 1; have hfz48_2 := blk_frozen BK200.out 2; have hfz48_3 := blk_frozen BK200.out 3; have hfz48_4 := blk_frozen BK200.out 4; have hfz48_5 := blk_frozen BK200.out 5; have hcz49_0 : w47.cell? ⟨gb197, 0, none⟩ = some (.string (⟨#[]⟩ : ByteArray)) := (blk_cell BK197.out 0).trans rfl; have hcz49_1 : w47.cell? ⟨gb197, 1, none⟩ = some (.string (⟨#[]⟩ : ByteArray)) := (blk_cell BK197.out 1).trans rfl; have hcz49_2 : w47.cell? ⟨gb197, 2, none⟩ = some (.int .u64 0) := (blk_cell BK197.out 2).trans rfl; have hcz49_3 : w47.cell? ⟨gb197, 3, none⟩ = some (.int .i64 0) := (blk_cell BK197.out 3).trans rfl; have hcz49_4 : w47.cell? ⟨gb197, 4, none⟩ = some (.slice none 0 0) := (blk_cell BK197.out 4).trans rfl; have hcz49_5 : w47.cell? ⟨gb197, 5, none⟩ = some (.int .i64 0) := (blk_cell BK197.out 5).trans rfl; have hfz49_0 := blk_frozen BK197.out 0; have hfz49_1 := blk_frozen BK197.out 1; have hfz49_2 := blk_frozen BK197.out 2; have hfz49_3 := blk_frozen BK197.out 3; have hfz49_4 := blk_frozen BK197.out 4; have hfz49_5 := blk_frozen BK197.out 5))
      refine bodyPost_ret (results_ct rfl _ _ gb197 28 #[.string a1, .string a2, .int .u64 a3, .int .i64 t198, .slice Ao46 x201004_1.length co46, .int .i64 t201] (0, 0) _ rfl (by (with_reducible repeat (first | refine kN_ ?_ _ | refine kD_ ?_ | refine kA_ ?_ _)); refine blk_put (cs := #[.string a1, .string a2, .int .u64 a3, .int .i64 t198, .slice Ao46 x201004_1.length co46, .int .i64 0]) ?_ 5 _ rfl; (with_reducible repeat (first | refine kN_ ?_ _ | refine kD_ ?_ | refine kA_ ?_ _)); refine blk_put (cs := #[.string a1, .string a2, .int .u64 a3, .int .i64 t198, .slice none 0 0, .int .i64 0]) ?_ 4 _ rfl; (with_reducible repeat (first | refine kN_ ?_ _ | refine kD_ ?_ | refine kA_ ?_ _)); refine blk_put (cs := #[.string a1, .string a2, .int .u64 a3, .int .i64 0, .slice none 0 0, .int .i64 0]) ?_ 3 _ rfl; (with_reducible repeat (first | refine kN_ ?_ _ | refine kD_ ?_ | refine kA_ ?_ _)); refine blk_put (cs := #[.string a1, .string a2, .int .u64 0, .int .i64 0, .slice none 0 0, .int .i64 0]) ?_ 2 _ rfl; (with_reducible repeat (first | refine kN_ ?_ _ | refine kD_ ?_ | refine kA_ ?_ _)); refine blk_put (cs := #[.string a1, .string (⟨#[]⟩ : ByteArray), .int .u64 0, .int .i64 0, .slice none 0 0, .int .i64 0]) ?_ 1 _ rfl; (with_reducible repeat (first | refine kN_ ?_ _ | refine kD_ ?_ | refine kA_ ?_ _)); refine blk_put (cs := #[.string (⟨#[]⟩ : ByteArray), .string (⟨#[]⟩ : ByteArray), .int .u64 0, .int .i64 0, .slice none 0 0, .int .i64 0]) ?_ 0 _ rfl; (with_reducible repeat (first | refine kN_ ?_ _ | refine kD_ ?_ | refine kA_ ?_ _)); refine blk_far ?_ NB197_200.out _; (with_reducible repeat (first | refine kN_ ?_ _ | refine kD_ ?_ | refine kA_ ?_ _)); exact BK197.out) Tryd.underlying28 rfl z71_) rfl ?_
      exact ⟨_, z61_, by (with_reducible repeat (first | apply Kd.R_alloc | apply Kd.R_drewN | apply Kd.R_drew)); exact Kd.R_mono (Kd.R_far (p := ⟨gb197, 5, none⟩) (Kd.R_far (p := ⟨gb197, 4, none⟩) (Kd.R_far (p := ⟨gb197, 3, none⟩) (Kd.R_far (p := ⟨gb197, 2, none⟩) (Kd.R_far (p := ⟨gb197, 1, none⟩) (Kd.R_far (p := ⟨gb197, 0, none⟩) (Kd.R_far (p := ⟨gb200, 5, none⟩) (Kd.R_types (Kd.R_types HO_201004.out BK200.out (by decide)) BK197.out (by decide)) (fun _ hk => hk.1.2) (.int .i64 t201)) (fun _ hk => hk.2) (.string a1)) (fun _ hk => hk.2) (.string a2)) (fun _ hk => hk.2) (.int .u64 a3)) (fun _ hk => hk.2) (.int .i64 t198)) (fun _ hk => hk.2) (.slice Ao46 x201004_1.length co46)) (fun _ hk => hk.2) (.int .i64 t201)) (fun _ hk => trivial), z21_⟩
     ·rw [if_neg c43] at H
      have c43b0 : (t202 == 0) = false := beq_eq_false_iff_ne.mpr c43
      have c43b1 : (t202 != 0) = true := bne_iff_ne.mpr c43
      simp only [Option.some.injEq, Prod.mk.injEq] at H
      obtain ⟨rfl, rfl, rfl, rfl, rfl, rfl, rfl⟩ := H
      have hnb50 := NB200_197.out
      have hnc50 := NB197_200.out
      have hcz51_0 : wr.cell? ⟨gb200, 0, none⟩ = some (.string a1) := (blk_cell BK200.out 0).trans rfl
      have hcz51_1 : wr.cell? ⟨gb200, 1, none⟩ = some (.string a2) := (blk_cell BK200.out 1).trans rfl
      have hcz51_2 : wr.cell? ⟨gb200, 2, none⟩ = some (.int .u64 a3) := (blk_cell BK200.out 2).trans rfl
      have hcz51_3 : wr.cell? ⟨gb200, 3, none⟩ = some (.int .i64 t198) := (blk_cell BK200.out 3).trans rfl
      have hcz51_4 : wr.cell? ⟨gb200, 4, none⟩ = some (u201004) := (blk_cell BK200.out 4).trans rfl
      have hcz51_5 : wr.cell? ⟨gb200, 5, none⟩ = some (.int .i64 0) := (blk_cell BK200.out 5).trans rfl
      have hfz51_0 := blk_frozen BK200.out 0
      have hfz51_1 := blk_frozen BK200.out 1
      have hfz51_2 := blk_frozen BK200.out 2
      have hfz51_3 := blk_frozen BK200.out 3
      have hfz51_4 := blk_frozen BK200.out 4
      have hfz51_5 := blk_frozen BK200.out 5
      obtain ⟨Ao52, co52, eo52⟩ := Kd.R_slice HO_201004.out
      subst eo52
      go_wp2_with (first | ((with_reducible refine gate_callee (f := 21) rfl ?_); refine goesL_ (some 98) rfl rfl Tryd.func21 z71_ rfl #[.agg #[.string a1, .string a2, .int .u64 a3, .int .i64 t198, .slice Ao52 x201004_1.length co52, .int .i64 0]] rfl z26_ ?_; (with_reducible refine (cambistref19_whole.calls k1 a1 a2 a3 t198 _ _ x201004_1 0 t201 t202 _ ?side1 ?side2 ?side3 A42.out).mono ?_); (case side1 => exact Glob.below HG.out z21_); (case side2 => repeat (first | exact (Kd.R_reads' HO_201004.out).2.2 | (with_reducible refine Kd.C_alloc ?_ _) | (with_reducible refine Kd.C_drewN ?_ _) | (with_reducible refine Kd.C_drew ?_))); (case side3 => exact (Kd.R_reads' HO_201004.out).2.1); rintro e w53 ⟨rfl, hb⟩; refine ⟨_, rfl, ?_⟩; have n0_ := a_ (Kd.R_below z37_ hb); have n1_ := a_ (blk_below (g := gb197) (o := .cells #[.string (⟨#[]⟩ : ByteArray), .string (⟨#[]⟩ : ByteArray), .int .u64 0, .int .i64 0, .slice none 0 0, .int .i64 0] 28 (0, 0)) z53_ hb); have n2_ := a_ (blk_below (g := gb200) (o := .cells #[.string a1, .string a2, .int .u64 a3, .int .i64 t198, .slice Ao52 x201004_1.length co52, .int .i64 0] 28 (0, 0)) z54_ hb); have n3_ := a_ (below_step z21_ hb); clear HO_201004; clear BK197; clear BK200; clear HB; have HO_201004 := n0_; have BK197 := n1_; have BK200 := n2_; have HB := n3_; clear n0_ n1_ n2_ n3_; (try clear hb); (try clear hb2); (try clear hk); (try clear hi); have hcz54_0 : w53.cell? ⟨gb197, 0, none⟩ = some (.string (⟨#[]⟩ : ByteArray)) := (blk_cell BK197.out 0).trans rfl; have hcz54_1 : w53.cell? ⟨gb197, 1, none⟩ = some (.string (⟨#[]⟩ : ByteArray)) := (blk_cell BK197.out 1).trans rfl; have hcz54_2 : w53.cell? ⟨gb197, 2, none⟩ = some (.int .u64 0) := (blk_cell BK197.out 2).trans rfl; have hcz54_3 : w53.cell? ⟨gb197, 3, none⟩ = some (.int .i64 0) := (blk_cell BK197.out 3).trans rfl; have hcz54_4 : w53.cell? ⟨gb197, 4, none⟩ = some (.slice none 0 0) := (blk_cell BK197.out 4).trans rfl; have hcz54_5 : w53.cell? ⟨gb197, 5, none⟩ = some (.int .i64 0) := (blk_cell BK197.out 5).trans rfl; have hfz54_0 := blk_frozen BK197.out 0; have hfz54_1 := blk_frozen BK197.out 1; have hfz54_2 := blk_frozen BK197.out 2; have hfz54_3 := blk_frozen BK197.out 3; have hfz54_4 := blk_frozen BK197.out 4; have hfz54_5 := blk_frozen BK197.out 5))
      refine bodyPost_ret (results_ct rfl _ _ gb197 28 #[.string (⟨#[]⟩ : ByteArray), .string (⟨#[]⟩ : ByteArray), .int .u64 0, .int .i64 0, .slice none 0 0, .int .i64 0] (0, 0) _ rfl (by (with_reducible repeat (first | refine kN_ ?_ _ | refine kD_ ?_ | refine kA_ ?_ _)); refine blk_put (cs := #[.string (⟨#[]⟩ : ByteArray), .string (⟨#[]⟩ : ByteArray), .int .u64 0, .int .i64 0, .slice none 0 0, .int .i64 0]) ?_ 5 _ rfl; (with_reducible repeat (first | refine kN_ ?_ _ | refine kD_ ?_ | refine kA_ ?_ _)); refine blk_put (cs := #[.string (⟨#[]⟩ : ByteArray), .string (⟨#[]⟩ : ByteArray), .int .u64 0, .int .i64 0, .slice none 0 0, .int .i64 0]) ?_ 4 _ rfl; (with_reducible repeat (first | refine kN_ ?_ _ | refine kD_ ?_ | refine kA_ ?_ _)); refine blk_put (cs := #[.string (⟨#[]⟩ : ByteArray), .string (⟨#[]⟩ : ByteArray), .int .u64 0, .int .i64 0, .slice none 0 0, .int .i64 0]) ?_ 3 _ rfl; (with_reducible repeat (first | refine kN_ ?_ _ | refine kD_ ?_ | refine kA_ ?_ _)); refine blk_put (cs := #[.string (⟨#[]⟩ : ByteArray), .string (⟨#[]⟩ : ByteArray), .int .u64 0, .int .i64 0, .slice none 0 0, .int .i64 0]) ?_ 2 _ rfl; (with_reducible repeat (first | refine kN_ ?_ _ | refine kD_ ?_ | refine kA_ ?_ _)); refine blk_put (cs := #[.string (⟨#[]⟩ : ByteArray), .string (⟨#[]⟩ : ByteArray), .int .u64 0, .int .i64 0, .slice none 0 0, .int .i64 0]) ?_ 1 _ rfl; (with_reducible repeat (first | refine kN_ ?_ _ | refine kD_ ?_ | refine kA_ ?_ _)); refine blk_put (cs := #[.string (⟨#[]⟩ : ByteArray), .string (⟨#[]⟩ : ByteArray), .int .u64 0, .int .i64 0, .slice none 0 0, .int .i64 0]) ?_ 0 _ rfl; (with_reducible repeat (first | refine kN_ ?_ _ | refine kD_ ?_ | refine kA_ ?_ _)); exact BK197.out) Tryd.underlying28 rfl z71_) rfl ?_
      exact ⟨_, z61_, z25_, z21_⟩
 ·rw [if_neg c6] at H
  have c6b0 : (t199 == 0) = false := beq_eq_false_iff_ne.mpr c6
  have c6b1 : (t199 != 0) = true := bne_iff_ne.mpr c6
  simp only [Option.some.injEq, Prod.mk.injEq] at H
  obtain ⟨rfl, rfl, rfl, rfl, rfl, rfl, rfl⟩ := H
  go_enter Tryd.func11, Tryd.ntmps11
  go_wp2_with (first | ((with_reducible refine gate_dst (N := 8) rfl ?_); refine box_event ?hg (N := 8) ?hd (cs := #[.string (⟨#[]⟩ : ByteArray), .string (⟨#[]⟩ : ByteArray), .int .u64 0, .int .i64 0, .slice none 0 0, .int .i64 0]) (t := 28) ?hr ?_; (case hd => rfl); (case hg => rfl); (case hr => first | (go_simp; done) | (go_simp; rfl)); intro gb197 hg w55 hbox hb; have n0_ := a_ (below_step z41_ hb); have n1_ := a_ (hbox); have n2_ := a_ ((z27_ : w.heap.size ≤ gb197)); have n3_ := a_ ((z27_ : w.heap.size ≤ gb197)); clear HB; have HB := n0_; have BK197 := n1_; have GW197 := n2_; have GE197 := n3_; clear n0_ n1_ n2_ n3_; clear hb hbox hg) | ((with_reducible refine gate_callee (f := 20) rfl ?_); refine goesL_ (some 23) rfl rfl Tryd.func20 z71_ rfl #[.slice A0 l0.length c0, .string a1, .string a2, .int .u64 0, .int .u64 a3] rfl z26_ ?_; (with_reducible refine (cambistref12_Sum.calls k _ _ l0 a1 a2 0 a3 t198 t199 _ ?side1 ?side2 ?side3 A5.out).mono ?_); (case side1 => exact Glob.below HG.out z33_); (case side2 => repeat (first | exact (Kd.C_below HR0.out HB.out) | (with_reducible refine Kd.C_alloc ?_ _) | (with_reducible refine Kd.C_drewN ?_ _) | (with_reducible refine Kd.C_drew ?_))); (case side3 => exact HC0.out); rintro e w56 ⟨rfl, hb⟩; refine ⟨_, rfl, ?_⟩; have n0_ := a_ (blk_below (g := gb197) (o := .cells #[.string (⟨#[]⟩ : ByteArray), .string (⟨#[]⟩ : ByteArray), .int .u64 0, .int .i64 0, .slice none 0 0, .int .i64 0] 28 (0, 0)) z53_ hb); have n1_ := a_ (below_step z33_ hb); clear BK197; clear HB; have BK197 := n0_; have HB := n1_; clear n0_ n1_; (try clear hb); (try clear hb2); (try clear hk); (try clear hi); have hcz57_0 : w56.cell? ⟨gb197, 0, none⟩ = some (.string (⟨#[]⟩ : ByteArray)) := (blk_cell BK197.out 0).trans rfl; have hcz57_1 : w56.cell? ⟨gb197, 1, none⟩ = some (.string (⟨#[]⟩ : ByteArray)) := (blk_cell BK197.out 1).trans rfl; have hcz57_2 : w56.cell? ⟨gb197, 2, none⟩ = some (.int .u64 0) := (blk_cell BK197.out 2).trans rfl; have hcz57_3 : w56.cell? ⟨gb197, 3, none⟩ = some (.int .i64 0) := (blk_cell BK197.out 3).trans rfl; have hcz57_4 : w56.cell? ⟨gb197, 4, none⟩ = some (.slice none 0 0) := (blk_cell BK197.out 4).trans rfl; have hcz57_5 : w56.cell? ⟨gb197, 5, none⟩ = some (.int .i64 0) := (blk_cell BK197.out 5).trans rfl; have hfz57_0 := blk_frozen BK197.out 0; have hfz57_1 := blk_frozen BK197.out 1; have hfz57_2 := blk_frozen BK197.out 2; have hfz57_3 := blk_frozen BK197.out 3; have hfz57_4 := blk_frozen BK197.out 4; have hfz57_5 := blk_frozen BK197.out 5))
  refine bodyPost_ret (results_ct rfl _ _ gb197 28 #[.string (⟨#[]⟩ : ByteArray), .string (⟨#[]⟩ : ByteArray), .int .u64 0, .int .i64 0, .slice none 0 0, .int .i64 0] (0, 0) _ rfl (by (with_reducible repeat (first | refine kN_ ?_ _ | refine kD_ ?_ | refine kA_ ?_ _)); refine blk_put (cs := #[.string (⟨#[]⟩ : ByteArray), .string (⟨#[]⟩ : ByteArray), .int .u64 0, .int .i64 0, .slice none 0 0, .int .i64 0]) ?_ 5 _ rfl; (with_reducible repeat (first | refine kN_ ?_ _ | refine kD_ ?_ | refine kA_ ?_ _)); refine blk_put (cs := #[.string (⟨#[]⟩ : ByteArray), .string (⟨#[]⟩ : ByteArray), .int .u64 0, .int .i64 0, .slice none 0 0, .int .i64 0]) ?_ 4 _ rfl; (with_reducible repeat (first | refine kN_ ?_ _ | refine kD_ ?_ | refine kA_ ?_ _)); refine blk_put (cs := #[.string (⟨#[]⟩ : ByteArray), .string (⟨#[]⟩ : ByteArray), .int .u64 0, .int .i64 0, .slice none 0 0, .int .i64 0]) ?_ 3 _ rfl; (with_reducible repeat (first | refine kN_ ?_ _ | refine kD_ ?_ | refine kA_ ?_ _)); refine blk_put (cs := #[.string (⟨#[]⟩ : ByteArray), .string (⟨#[]⟩ : ByteArray), .int .u64 0, .int .i64 0, .slice none 0 0, .int .i64 0]) ?_ 2 _ rfl; (with_reducible repeat (first | refine kN_ ?_ _ | refine kD_ ?_ | refine kA_ ?_ _)); refine blk_put (cs := #[.string (⟨#[]⟩ : ByteArray), .string (⟨#[]⟩ : ByteArray), .int .u64 0, .int .i64 0, .slice none 0 0, .int .i64 0]) ?_ 1 _ rfl; (with_reducible repeat (first | refine kN_ ?_ _ | refine kD_ ?_ | refine kA_ ?_ _)); refine blk_put (cs := #[.string (⟨#[]⟩ : ByteArray), .string (⟨#[]⟩ : ByteArray), .int .u64 0, .int .i64 0, .slice none 0 0, .int .i64 0]) ?_ 0 _ rfl; (with_reducible repeat (first | refine kN_ ?_ _ | refine kD_ ?_ | refine kA_ ?_ _)); exact BK197.out) Tryd.underlying28 rfl z71_) rfl ?_
  exact ⟨_, z61_, z25_, z33_⟩

-- NOT PRINTED: function 7 (cambistlaw19_SlipChecks)

end Go.Proofs.YtnngbnhbmgdkoaaDoor.P
