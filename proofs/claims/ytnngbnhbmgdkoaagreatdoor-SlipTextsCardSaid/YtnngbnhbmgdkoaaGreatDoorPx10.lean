-- Laid by wip/tools/cprint.py of this claim's own repo (over the kit's print).
import Derived.Test.YtnngbnhbmgdkoaaGreatDoorSq
import Derived.Test.YtnngbnhbmgdkoaaGreatDoorPx0
import Derived.Test.YtnngbnhbmgdkoaaGreatDoorPx2
import Derived.Test.YtnngbnhbmgdkoaaGreatDoorJSum
namespace Go.Proofs.YtnngbnhbmgdkoaaGreatDoor.P
open Go.RowKit Go.Proofs.YtnngbnhbmgdkoaaGreatDoor.E Go.Proofs.YtnngbnhbmgdkoaaGreatDoorW.PrintWords Go.Proofs.YtnngbnhbmgdkoaaGreatDoorW.PrintLast
set_option linter.unusedVariables false
set_option linter.unusedSimpArgs false

/-! ### slip_Make: function 13 -/
mutual
def slip_Make.l0 : Nat → ByteArray → ByteArray → Int → List (S43) → Int → Int → ByteArray → ByteArray → Int → Int → List (S37) → Int → Option (ByteArray × ByteArray × Int × Int × (List (S37)) × Int × Int)
 | 0, _, _, _, _, _, _, _, _, _, _, _, _ => none
 | k + 1, x1, x2, x3, x34, x35, x36, x140000, x140001, x140002, x140003, x140004, x140005 => if x36 < x35 then (if 0 ≤ x36 then (if x36 < (x34.length : Int) then (slip_Make.l1 k x1 x2 x3 x34 x35 x36 ((rd_T43 x34 x36).f3) (((rd_T43 x34 x36).f3).length : Int) 0 x140000 x140001 x140002 x140003 x140004 x140005 ((rd_T43 x34 x36).f0) ((rd_T43 x34 x36).f1) ((rd_T43 x34 x36).f2) ((rd_T43 x34 x36).f3)) else (none)) else (none)) else ((slip_whole.f k x140000 x140001 x140002 x140003 x140004 x140005).bind fun bt140 => (if bt140.2 = 0 then (some (x140000, x140001, x140002, x140003, x140004, bt140.1, 0)) else (some ((⟨#[]⟩ : ByteArray), (⟨#[]⟩ : ByteArray), 0, 0, ([] : List (S37)), 0, bt140.2))))
def slip_Make.l1 : Nat → ByteArray → ByteArray → Int → List (S43) → Int → Int → List (S40) → Int → Int → ByteArray → ByteArray → Int → Int → List (S37) → Int → Int → Int → ByteArray → List (S40) → Option (ByteArray × ByteArray × Int × Int × (List (S37)) × Int × Int)
 | 0, _, _, _, _, _, _, _, _, _, _, _, _, _, _, _, _, _, _, _ => none
 | k + 1, x1, x2, x3, x34, x35, x36, x41, x42, x43, x140000, x140001, x140002, x140003, x140004, x140005, x144000, x144001, x144002, x144003 => if x43 < x42 then (if 0 ≤ x43 then (if x43 < (x41.length : Int) then (if x144001 = x3 then (if ((rd_T40 x41 x43).f0).toList = x1.toList then (if ((rd_T40 x41 x43).f1).toList = x2.toList then (if x140004.length < 4398046511104 then (slip_Make.l1 k x1 x2 x3 x34 x35 x36 x41 x42 (wrap64 (x43 + 1)) x140000 x140001 x140002 x140003 (x140004 ++ [(⟨x144000, x144002, (rd_T40 x41 x43).f2⟩ : S37)]) x140005 x144000 x144001 x144002 x144003) else (none)) else (slip_Make.l1 k x1 x2 x3 x34 x35 x36 x41 x42 (wrap64 (x43 + 1)) x140000 x140001 x140002 x140003 x140004 x140005 x144000 x144001 x144002 x144003)) else (slip_Make.l1 k x1 x2 x3 x34 x35 x36 x41 x42 (wrap64 (x43 + 1)) x140000 x140001 x140002 x140003 x140004 x140005 x144000 x144001 x144002 x144003)) else (slip_Make.l1 k x1 x2 x3 x34 x35 x36 x41 x42 (wrap64 (x43 + 1)) x140000 x140001 x140002 x140003 x140004 x140005 x144000 x144001 x144002 x144003)) else (none)) else (none)) else (slip_Make.l0 k x1 x2 x3 x34 x35 (wrap64 (x36 + 1)) x140000 x140001 x140002 x140003 x140004 x140005)
end
def slip_Make.f (k : Nat) (l0 : List (S43)) (a1 : ByteArray) (a2 : ByteArray) (a3 : Int) : Option (ByteArray × ByteArray × Int × Int × (List (S37)) × Int × Int) := (journal_Sum.f l0 a1 a2 0 a3).bind fun bt137 => (if bt137.2 = 0 then (slip_Make.l0 k a1 a2 a3 l0 (l0.length : Int) 0 a1 a2 a3 bt137.1 ([] : List (S37)) 0) else (some ((⟨#[]⟩ : ByteArray), (⟨#[]⟩ : ByteArray), 0, 0, ([] : List (S37)), 0, bt137.2)))
theorem slip_Make.mono_l : ∀ k, (∀ y0 y1 y2 y3 y4 y5 y6 y7 y8 y9 y10 y11, LeO (slip_Make.l0 k y0 y1 y2 y3 y4 y5 y6 y7 y8 y9 y10 y11) (slip_Make.l0 (k + 1) y0 y1 y2 y3 y4 y5 y6 y7 y8 y9 y10 y11)) ∧ (∀ y0 y1 y2 y3 y4 y5 y6 y7 y8 y9 y10 y11 y12 y13 y14 y15 y16 y17 y18, LeO (slip_Make.l1 k y0 y1 y2 y3 y4 y5 y6 y7 y8 y9 y10 y11 y12 y13 y14 y15 y16 y17 y18) (slip_Make.l1 (k + 1) y0 y1 y2 y3 y4 y5 y6 y7 y8 y9 y10 y11 y12 y13 y14 y15 y16 y17 y18))
 | 0 => ⟨fun _ _ _ _ _ _ _ _ _ _ _ _ r h => by simp [slip_Make.l0] at h, fun _ _ _ _ _ _ _ _ _ _ _ _ _ _ _ _ _ _ _ r h => by simp [slip_Make.l1] at h⟩
 | k + 1 => by
  obtain ⟨ih0, ih1⟩ := slip_Make.mono_l k
  refine ⟨?_, ?_⟩
  ·intro y0 y1 y2 y3 y4 y5 y6 y7 y8 y9 y10 y11
   unfold slip_Make.l0
   repeat' first
   | (with_reducible exact ih0 _ _ _ _ _ _ _ _ _ _ _ _)
   | (with_reducible exact ih1 _ _ _ _ _ _ _ _ _ _ _ _ _ _ _ _ _ _ _)
   | (with_reducible exact slip_whole.mono _ _ _ _ _ _ _)
   | (with_reducible first | exact LeO.refl _ | exact LeO.none _ | refine LeO.ite ?_ ?_ | refine LeO.bind ?_ fun _ => ?_)
   | exact ih0 _ _ _ _ _ _ _ _ _ _ _ _
   | exact ih1 _ _ _ _ _ _ _ _ _ _ _ _ _ _ _ _ _ _ _
   | exact slip_whole.mono _ _ _ _ _ _ _
  ·intro y0 y1 y2 y3 y4 y5 y6 y7 y8 y9 y10 y11 y12 y13 y14 y15 y16 y17 y18
   unfold slip_Make.l1
   repeat' first
   | (with_reducible exact ih0 _ _ _ _ _ _ _ _ _ _ _ _)
   | (with_reducible exact ih1 _ _ _ _ _ _ _ _ _ _ _ _ _ _ _ _ _ _ _)
   | (with_reducible exact slip_whole.mono _ _ _ _ _ _ _)
   | (with_reducible first | exact LeO.refl _ | exact LeO.none _ | refine LeO.ite ?_ ?_ | refine LeO.bind ?_ fun _ => ?_)
   | exact ih0 _ _ _ _ _ _ _ _ _ _ _ _
   | exact ih1 _ _ _ _ _ _ _ _ _ _ _ _ _ _ _ _ _ _ _
   | exact slip_whole.mono _ _ _ _ _ _ _
theorem slip_Make.mono : ∀ a0 a1 a2 a3 k, LeO (slip_Make.f k a0 a1 a2 a3) (slip_Make.f (k + 1) a0 a1 a2 a3) := by
 intro a0 a1 a2 a3 k
 obtain ⟨ih0, ih1⟩ := slip_Make.mono_l k
 unfold slip_Make.f
 repeat' first
   | (with_reducible exact ih0 _ _ _ _ _ _ _ _ _ _ _ _)
   | (with_reducible exact ih1 _ _ _ _ _ _ _ _ _ _ _ _ _ _ _ _ _ _ _)
   | (with_reducible exact slip_whole.mono _ _ _ _ _ _ _)
   | (with_reducible first | exact LeO.refl _ | exact LeO.none _ | refine LeO.ite ?_ ?_ | refine LeO.bind ?_ fun _ => ?_)
   | exact ih0 _ _ _ _ _ _ _ _ _ _ _ _
   | exact ih1 _ _ _ _ _ _ _ _ _ _ _ _ _ _ _ _ _ _ _
   | exact slip_whole.mono _ _ _ _ _ _ _
set_option maxHeartbeats 8000000 in
set_option maxRecDepth 100000 in
theorem slip_Make.calls (k : Nat) (A0 : Option Addr) (c0 : Nat) (l0 : List (S43)) (a1 : ByteArray) (a2 : ByteArray) (a3 : Int) (r1 : ByteArray) (r2 : ByteArray) (r3 : Int) (r4 : Int) (r5 : List (S37)) (r6 : Int) (r7 : Int) (w : World) (hG : Glob w) (hr0 : Kd.C k43 w A0 l0.length l0) (hc0 : l0.length ≤ c0) (h : slip_Make.f k l0 a1 a2 a3 = some (r1, r2, r3, r4, r5, r6, r7)) :
  Calls Tryz.prog 13 #[.slice A0 l0.length c0, .string a1, .string a2, .int .u64 a3] w fun e w' => ∃ v4_ : Value, e = .returned (.tuple #[.agg #[.string r1, .string r2, .int .u64 r3, .int .i64 r4, v4_, .int .i64 r6], .int .i64 r7]) ∧ Kd.R k37 37 w' w.heap.size (fun _ => True) v4_ r5 ∧ Below w.heap.size w w' := by
 have hu25 := Tryz.underlying25
 have hu43 := Tryz.underlying43
 have hu40 := Tryz.underlying40
 have hu37 := Tryz.underlying37
 have HG := a_ hG
 clear hG
 have HR0 := a_ hr0
 have HC0 := a_ hc0
 clear hr0 hc0
 have HB := a_ (Below.refl w.heap.size w)
 have H : ((journal_Sum.f l0 a1 a2 0 a3).bind fun bt137 => (if bt137.2 = 0 then (slip_Make.l0 k a1 a2 a3 l0 (l0.length : Int) 0 a1 a2 a3 bt137.1 ([] : List (S37)) 0) else (some ((⟨#[]⟩ : ByteArray), (⟨#[]⟩ : ByteArray), 0, 0, ([] : List (S37)), 0, bt137.2)))) = some (r1, r2, r3, r4, r5, r6, r7) := h
 clear h
 replace H := Option.bind_eq_some_iff.mp H
 obtain ⟨⟨t137, t138⟩, A50, H⟩ := H
 replace H : (if t138 = 0 then (slip_Make.l0 k a1 a2 a3 l0 (l0.length : Int) 0 a1 a2 a3 t137 ([] : List (S37)) 0) else (some ((⟨#[]⟩ : ByteArray), (⟨#[]⟩ : ByteArray), 0, 0, ([] : List (S37)), 0, t138))) = some (r1, r2, r3, r4, r5, r6, r7) := H
 have A5 := a_ A50
 clear A50
 by_cases c6 : t138 = 0
 ·rw [if_pos c6] at H
  have c6b0 : (t138 == 0) = true := beq_iff_eq.mpr c6
  have c6b1 : (t138 != 0) = false := bne_eq_false_iff_eq.mpr c6
  clear c6
  have H' := a_ H
  clear H
  go_enter Tryz.func13, Tryz.ntmps13
  go_wp2_with (first | ((with_reducible refine gate_dst (N := 8) rfl ?_); refine box_event ?hg (N := 8) ?hd (cs := #[.string (⟨#[]⟩ : ByteArray), .string (⟨#[]⟩ : ByteArray), .int .u64 0, .int .i64 0, .slice none 0 0, .int .i64 0]) (t := 25) ?hr ?_; (case hd => rfl); (case hg => rfl); (case hr => first | (go_simp; done) | (go_simp; rfl)); intro gb136 hg w7 hbox hb; have n0_ := a_ (below_step z45_ hb); have n1_ := a_ (hbox); have n2_ := a_ ((z32_ : w.heap.size ≤ gb136)); have n3_ := a_ ((z32_ : w.heap.size ≤ gb136)); clear HB; have HB := n0_; have BK136 := n1_; have GW136 := n2_; have GE136 := n3_; clear n0_ n1_ n2_ n3_; clear hb hbox hg) | ((with_reducible refine gate_callee (f := 40) rfl ?_); refine goesL_ (some 22) rfl rfl Tryz.func40 z85_ rfl #[.slice A0 l0.length c0, .string a1, .string a2, .int .u64 0, .int .u64 a3] rfl z31_ ?_; (with_reducible refine (journal_Sum.calls _ _ l0 a1 a2 0 a3 t137 t138 _ ?side1 ?side2 ?side3 A5.out).mono ?_); (case side1 => exact Glob.below HG.out z41_); (case side2 => repeat (first | exact (Kd.C_below HR0.out HB.out) | (with_reducible refine Kd.C_alloc ?_ _) | (with_reducible refine Kd.C_drewN ?_ _) | (with_reducible refine Kd.C_drew ?_))); (case side3 => exact HC0.out); rintro e w8 ⟨rfl, hb⟩; refine ⟨_, rfl, ?_⟩; have n0_ := a_ (blk_below (g := gb136) (o := .cells #[.string (⟨#[]⟩ : ByteArray), .string (⟨#[]⟩ : ByteArray), .int .u64 0, .int .i64 0, .slice none 0 0, .int .i64 0] 25 (0, 0)) z71_ hb); have n1_ := a_ (below_step z41_ hb); clear BK136; clear HB; have BK136 := n0_; have HB := n1_; clear n0_ n1_; (try clear hb); (try clear hb2); (try clear hk); (try clear hi)) | ((with_reducible refine gate_dst (N := 12) rfl ?_); refine box_event ?hg (N := 12) ?hd (cs := #[.string (⟨#[]⟩ : ByteArray), .string (⟨#[]⟩ : ByteArray), .int .u64 0, .int .i64 0, .slice none 0 0, .int .i64 0]) (t := 25) ?hr ?_; (case hd => rfl); (case hg => rfl); (case hr => first | (go_simp; done) | (go_simp; rfl)); intro gb139 hg w9 hbox hb; have n0_ := a_ (blk_below (g := gb136) (o := .cells #[.string (⟨#[]⟩ : ByteArray), .string (⟨#[]⟩ : ByteArray), .int .u64 0, .int .i64 0, .slice none 0 0, .int .i64 0] 25 (0, 0)) z71_ hb); have n1_ := a_ (below_step z41_ hb); have n2_ := a_ (hbox); have n3_ := a_ ((by rw [hg]; exact (below_size z41_) : w.heap.size ≤ gb139)); have n4_ := a_ ((by rw [hg]; exact (below_size z41_) : w.heap.size ≤ gb139)); have n5_ := a_ ((by rw [hg]; exact Nat.ne_of_lt (blk_lt (g := gb136) (o := .cells #[.string (⟨#[]⟩ : ByteArray), .string (⟨#[]⟩ : ByteArray), .int .u64 0, .int .i64 0, .slice none 0 0, .int .i64 0] 25 (0, 0)) z71_) : gb136 ≠ gb139)); have n6_ := a_ ((by rw [hg]; exact Nat.ne_of_gt (blk_lt (g := gb136) (o := .cells #[.string (⟨#[]⟩ : ByteArray), .string (⟨#[]⟩ : ByteArray), .int .u64 0, .int .i64 0, .slice none 0 0, .int .i64 0] 25 (0, 0)) z71_) : gb139 ≠ gb136)); clear BK136; clear HB; have BK136 := n0_; have HB := n1_; have BK139 := n2_; have GW139 := n3_; have GE139 := n4_; have NB136_139 := n5_; have NB139_136 := n6_; clear n0_ n1_ n2_ n3_ n4_ n5_ n6_; clear hb hbox hg; have hnb10 := NB139_136.out; have hnc10 := NB136_139.out; have hcz11_0 : w9.cell? ⟨gb139, 0, none⟩ = some (.string (⟨#[]⟩ : ByteArray)) := (blk_cell BK139.out 0).trans rfl; have hcz11_1 : w9.cell? ⟨gb139, 1, none⟩ = some (.string (⟨#[]⟩ : ByteArray)) := (blk_cell BK139.out 1).trans rfl; have hcz11_2 : w9.cell? ⟨gb139, 2, none⟩ = some (.int .u64 0) := (blk_cell BK139.out 2).trans rfl; have hcz11_3 : w9.cell? ⟨gb139, 3, none⟩ = some (.int .i64 0) := (blk_cell BK139.out 3).trans rfl; have hcz11_4 : w9.cell? ⟨gb139, 4, none⟩ = some (.slice none 0 0) := (blk_cell BK139.out 4).trans rfl; have hcz11_5 : w9.cell? ⟨gb139, 5, none⟩ = some (.int .i64 0) := (blk_cell BK139.out 5).trans rfl; have hfz11_0 := blk_frozen BK139.out 0; have hfz11_1 := blk_frozen BK139.out 1; have hfz11_2 := blk_frozen BK139.out 2; have hfz11_3 := blk_frozen BK139.out 3; have hfz11_4 := blk_frozen BK139.out 4; have hfz11_5 := blk_frozen BK139.out 5))
  go_loopg [36] k (fun kq v36 w' => ∃ (x36_1 : Int) (x140004_1 : List (S37)) (u140004 : Value), v36 = .int .i64 x36_1 ∧ Aside0 (slip_Make.l0 kq a1 a2 a3 l0 (l0.length : Int) x36_1 a1 a2 a3 t137 x140004_1 0 = some (r1, r2, r3, r4, r5, r6, r7)) ∧ Aside0 (kq ≤ k) ∧ Aside0 (Kd.R k37 37 w' w.heap.size (fun _ => True) u140004 x140004_1) ∧ Aside0 (w'.heap[gb136]? = some (.cells #[.string (⟨#[]⟩ : ByteArray), .string (⟨#[]⟩ : ByteArray), .int .u64 0, .int .i64 0, (.slice none 0 0), .int .i64 0] 25 (0, 0))) ∧ Aside0 (w'.heap[gb139]? = some (.cells #[.string a1, .string a2, .int .u64 a3, .int .i64 t137, u140004, .int .i64 0] 25 (0, 0))) ∧ Aside0 (Below w.heap.size w w'))
  case atStart => exact ⟨(0), (([] : List (S37))), (.slice none 0 0), z80_, H', ⟨Nat.le_refl _⟩, ⟨z30_⟩, ⟨by (with_reducible repeat (first | refine kN_ ?_ _ | refine kD_ ?_ | refine kA_ ?_ _)); refine blk_far ?_ NB136_139.out _; (with_reducible repeat (first | refine kN_ ?_ _ | refine kD_ ?_ | refine kA_ ?_ _)); refine blk_far ?_ NB136_139.out _; (with_reducible repeat (first | refine kN_ ?_ _ | refine kD_ ?_ | refine kA_ ?_ _)); refine blk_far ?_ NB136_139.out _; (with_reducible repeat (first | refine kN_ ?_ _ | refine kD_ ?_ | refine kA_ ?_ _)); refine blk_far ?_ NB136_139.out _; (with_reducible repeat (first | refine kN_ ?_ _ | refine kD_ ?_ | refine kA_ ?_ _)); refine blk_far ?_ NB136_139.out _; (with_reducible repeat (first | refine kN_ ?_ _ | refine kD_ ?_ | refine kA_ ?_ _)); refine blk_far ?_ NB136_139.out _; (with_reducible repeat (first | refine kN_ ?_ _ | refine kD_ ?_ | refine kA_ ?_ _)); exact BK136.out⟩, ⟨by (with_reducible repeat (first | refine kN_ ?_ _ | refine kD_ ?_ | refine kA_ ?_ _)); refine blk_put (cs := #[.string a1, .string a2, .int .u64 a3, .int .i64 t137, .slice none 0 0, .int .i64 0]) ?_ 5 _ rfl; (with_reducible repeat (first | refine kN_ ?_ _ | refine kD_ ?_ | refine kA_ ?_ _)); refine blk_put (cs := #[.string a1, .string a2, .int .u64 a3, .int .i64 t137, .slice none 0 0, .int .i64 0]) ?_ 4 _ rfl; (with_reducible repeat (first | refine kN_ ?_ _ | refine kD_ ?_ | refine kA_ ?_ _)); refine blk_put (cs := #[.string a1, .string a2, .int .u64 a3, .int .i64 0, .slice none 0 0, .int .i64 0]) ?_ 3 _ rfl; (with_reducible repeat (first | refine kN_ ?_ _ | refine kD_ ?_ | refine kA_ ?_ _)); refine blk_put (cs := #[.string a1, .string a2, .int .u64 0, .int .i64 0, .slice none 0 0, .int .i64 0]) ?_ 2 _ rfl; (with_reducible repeat (first | refine kN_ ?_ _ | refine kD_ ?_ | refine kA_ ?_ _)); refine blk_put (cs := #[.string a1, .string (⟨#[]⟩ : ByteArray), .int .u64 0, .int .i64 0, .slice none 0 0, .int .i64 0]) ?_ 1 _ rfl; (with_reducible repeat (first | refine kN_ ?_ _ | refine kD_ ?_ | refine kA_ ?_ _)); refine blk_put (cs := #[.string (⟨#[]⟩ : ByteArray), .string (⟨#[]⟩ : ByteArray), .int .u64 0, .int .i64 0, .slice none 0 0, .int .i64 0]) ?_ 0 _ rfl; (with_reducible repeat (first | refine kN_ ?_ _ | refine kD_ ?_ | refine kA_ ?_ _)); exact BK139.out⟩, ⟨z24_⟩⟩
  case round =>
   clear H'
   try clear c1
   try clear p2
   try clear c4
   try clear c6
   try clear c6b0
   try clear c6b1
   try clear c10
   try clear hcz11_0
   try clear hcz11_1
   try clear hcz11_2
   try clear hcz11_3
   try clear hcz11_4
   try clear hcz11_5
   try clear hfz11_0
   try clear hfz11_1
   try clear hfz11_2
   try clear hfz11_3
   try clear hfz11_4
   try clear hfz11_5
   obtain ⟨x36_1, x140004_1, u140004, rfl, HA, HK1, HO_140004, BK136, BK139, HB⟩ := hrel
   cases gk with
   | zero => exact absurd HA.out (by simp [slip_Make.l0])
   | succ k1 =>
    have H := HA.out
    clear HA
    simp only [slip_Make.l0] at H
    by_cases c12 : x36_1 < (l0.length : Int)
    ·rw [if_pos c12] at H
     have c12b0 : decide (x36_1 < (l0.length : Int)) = true := decide_eq_true c12
     clear c12
     by_cases c13 : 0 ≤ x36_1
     ·rw [if_pos c13] at H
      have c13b0 : decide (0 ≤ x36_1) = true := decide_eq_true c13
      clear c13
      by_cases c14 : x36_1 < (l0.length : Int)
      ·rw [if_pos c14] at H
       have c14b0 : decide (x36_1 < (l0.length : Int)) = true := decide_eq_true c14
       clear c14
       have H' := a_ H
       clear H
       have p142 : 0 ≤ (x36_1 : Int) := of_decide_eq_true z79_
       have q142 : x36_1 < (l0.length : Int) := of_decide_eq_true z79_
       obtain ⟨ad142, A142_3, c142_3, e142, hx142_0, hx142_1, hx142_2, hx142_3, hl142_3, hi142_3⟩ := at_T43 HR0.out x36_1 p142 q142
       cases e142
       replace hx142_0 := (HB.out.cell (World.block_lt_of_cell? w _ hx142_0)).trans hx142_0
       replace hx142_1 := (HB.out.cell (World.block_lt_of_cell? w _ hx142_1)).trans hx142_1
       replace hx142_2 := (HB.out.cell (World.block_lt_of_cell? w _ hx142_2)).trans hx142_2
       replace hx142_3 := (HB.out.cell (World.block_lt_of_cell? w _ hx142_3)).trans hx142_3
       have HR142_3 := a_ hi142_3
       have HC142_3 := a_ hl142_3
       clear hi142_3 hl142_3
       replace p142 := eq_true p142
       replace q142 := eq_true q142
       go_wp2_with (first | ((with_reducible refine gate_dst (N := 14) rfl ?_); refine box_event ?hg (N := 14) ?hd (cs := #[.int .u64 0, .int .u64 0, .string (⟨#[]⟩ : ByteArray), .slice none 0 0]) (t := 43) ?hr ?_; (case hd => rfl); (case hg => rfl); (case hr => first | (go_simp; done) | (go_simp; rfl)); intro gb143 hg w15 hbox hb; have n0_ := a_ (Kd.R_below z44_ hb); have n1_ := a_ (blk_below (g := gb136) (o := .cells #[.string (⟨#[]⟩ : ByteArray), .string (⟨#[]⟩ : ByteArray), .int .u64 0, .int .i64 0, .slice none 0 0, .int .i64 0] 25 (0, 0)) z71_ hb); have n2_ := a_ (blk_below (g := gb139) (o := .cells #[.string a1, .string a2, .int .u64 a3, .int .i64 t137, u140004, .int .i64 0] 25 (0, 0)) z72_ hb); have n3_ := a_ (below_step z24_ hb); have n4_ := a_ (hbox); have n5_ := a_ ((by rw [hg]; exact (below_size z24_) : w.heap.size ≤ gb143)); have n6_ := a_ ((by rw [hg]; exact (below_size z24_) : w.heap.size ≤ gb143)); have n7_ := a_ ((by rw [hg]; exact Nat.ne_of_lt (blk_lt (g := gb136) (o := .cells #[.string (⟨#[]⟩ : ByteArray), .string (⟨#[]⟩ : ByteArray), .int .u64 0, .int .i64 0, .slice none 0 0, .int .i64 0] 25 (0, 0)) z71_) : gb136 ≠ gb143)); have n8_ := a_ ((by rw [hg]; exact Nat.ne_of_gt (blk_lt (g := gb136) (o := .cells #[.string (⟨#[]⟩ : ByteArray), .string (⟨#[]⟩ : ByteArray), .int .u64 0, .int .i64 0, .slice none 0 0, .int .i64 0] 25 (0, 0)) z71_) : gb143 ≠ gb136)); have n9_ := a_ ((by rw [hg]; exact Nat.ne_of_lt (blk_lt (g := gb139) (o := .cells #[.string a1, .string a2, .int .u64 a3, .int .i64 t137, u140004, .int .i64 0] 25 (0, 0)) z72_) : gb139 ≠ gb143)); have n10_ := a_ ((by rw [hg]; exact Nat.ne_of_gt (blk_lt (g := gb139) (o := .cells #[.string a1, .string a2, .int .u64 a3, .int .i64 t137, u140004, .int .i64 0] 25 (0, 0)) z72_) : gb143 ≠ gb139)); clear HO_140004; clear BK136; clear BK139; clear HB; have HO_140004 := n0_; have BK136 := n1_; have BK139 := n2_; have HB := n3_; have BK143 := n4_; have GW143 := n5_; have GE143 := n6_; have NB136_143 := n7_; have NB143_136 := n8_; have NB139_143 := n9_; have NB143_139 := n10_; clear n0_ n1_ n2_ n3_ n4_ n5_ n6_ n7_ n8_ n9_ n10_; clear hb hbox hg; have hnb16 := NB143_136.out; have hnc16 := NB136_143.out; have hnb17 := NB143_139.out; have hnc17 := NB139_143.out; have hcz18_0 : w15.cell? ⟨gb143, 0, none⟩ = some (.int .u64 0) := (blk_cell BK143.out 0).trans rfl; have hcz18_1 : w15.cell? ⟨gb143, 1, none⟩ = some (.int .u64 0) := (blk_cell BK143.out 1).trans rfl; have hcz18_2 : w15.cell? ⟨gb143, 2, none⟩ = some (.string (⟨#[]⟩ : ByteArray)) := (blk_cell BK143.out 2).trans rfl; have hcz18_3 : w15.cell? ⟨gb143, 3, none⟩ = some (.slice none 0 0) := (blk_cell BK143.out 3).trans rfl; have hfz18_0 := blk_frozen BK143.out 0; have hfz18_1 := blk_frozen BK143.out 1; have hfz18_2 := blk_frozen BK143.out 2; have hfz18_3 := blk_frozen BK143.out 3))
       go_loopg [43] k1 (fun kq v43 w' => ∃ (x43_2 : Int) (x140004_2 : List (S37)) (u140004 : Value), v43 = .int .i64 x43_2 ∧ Aside0 (slip_Make.l1 kq a1 a2 a3 l0 (l0.length : Int) x36_1 ((rd_T43 l0 x36_1).f3) (((rd_T43 l0 x36_1).f3).length : Int) x43_2 a1 a2 a3 t137 x140004_2 0 ((rd_T43 l0 x36_1).f0) ((rd_T43 l0 x36_1).f1) ((rd_T43 l0 x36_1).f2) ((rd_T43 l0 x36_1).f3) = some (r1, r2, r3, r4, r5, r6, r7)) ∧ Aside0 (kq ≤ k1) ∧ Aside0 (Kd.R k37 37 w' w.heap.size (fun _ => True) u140004 x140004_2) ∧ Aside0 (w'.heap[gb136]? = some (.cells #[.string (⟨#[]⟩ : ByteArray), .string (⟨#[]⟩ : ByteArray), .int .u64 0, .int .i64 0, (.slice none 0 0), .int .i64 0] 25 (0, 0))) ∧ Aside0 (w'.heap[gb139]? = some (.cells #[.string a1, .string a2, .int .u64 a3, .int .i64 t137, u140004, .int .i64 0] 25 (0, 0))) ∧ Aside0 (w'.heap[gb143]? = some (.cells #[.int .u64 ((rd_T43 l0 x36_1).f0), .int .u64 ((rd_T43 l0 x36_1).f1), .string ((rd_T43 l0 x36_1).f2), (.slice A142_3 ((rd_T43 l0 x36_1).f3).length c142_3)] 43 (0, 0))) ∧ Aside0 (Below w.heap.size w w'))
       case atStart => exact ⟨(0), (x140004_1), (u140004), z80_, H', ⟨Nat.le_refl _⟩, ⟨by (with_reducible repeat (first | apply Kd.R_alloc | apply Kd.R_drewN | apply Kd.R_drew)); exact Kd.R_mono (Kd.R_far (p := ⟨gb143, 3, none⟩) (Kd.R_far (p := ⟨gb143, 2, none⟩) (Kd.R_far (p := ⟨gb143, 1, none⟩) (Kd.R_far (p := ⟨gb143, 0, none⟩) (Kd.R_types HO_140004.out BK143.out (by decide)) (fun _ hk => hk.2) (.int .u64 ((rd_T43 l0 x36_1).f0))) (fun _ hk => hk.2) (.int .u64 ((rd_T43 l0 x36_1).f1))) (fun _ hk => hk.2) (.string ((rd_T43 l0 x36_1).f2))) (fun _ hk => hk.2) (.slice A142_3 ((rd_T43 l0 x36_1).f3).length c142_3)) (fun _ hk => trivial)⟩, ⟨by (with_reducible repeat (first | refine kN_ ?_ _ | refine kD_ ?_ | refine kA_ ?_ _)); refine blk_far ?_ NB136_143.out _; (with_reducible repeat (first | refine kN_ ?_ _ | refine kD_ ?_ | refine kA_ ?_ _)); refine blk_far ?_ NB136_143.out _; (with_reducible repeat (first | refine kN_ ?_ _ | refine kD_ ?_ | refine kA_ ?_ _)); refine blk_far ?_ NB136_143.out _; (with_reducible repeat (first | refine kN_ ?_ _ | refine kD_ ?_ | refine kA_ ?_ _)); refine blk_far ?_ NB136_143.out _; (with_reducible repeat (first | refine kN_ ?_ _ | refine kD_ ?_ | refine kA_ ?_ _)); exact BK136.out⟩, ⟨by (with_reducible repeat (first | refine kN_ ?_ _ | refine kD_ ?_ | refine kA_ ?_ _)); refine blk_far ?_ NB139_143.out _; (with_reducible repeat (first | refine kN_ ?_ _ | refine kD_ ?_ | refine kA_ ?_ _)); refine blk_far ?_ NB139_143.out _; (with_reducible repeat (first | refine kN_ ?_ _ | refine kD_ ?_ | refine kA_ ?_ _)); refine blk_far ?_ NB139_143.out _; (with_reducible repeat (first | refine kN_ ?_ _ | refine kD_ ?_ | refine kA_ ?_ _)); refine blk_far ?_ NB139_143.out _; (with_reducible repeat (first | refine kN_ ?_ _ | refine kD_ ?_ | refine kA_ ?_ _)); exact BK139.out⟩, ⟨by (with_reducible repeat (first | refine kN_ ?_ _ | refine kD_ ?_ | refine kA_ ?_ _)); refine blk_put (cs := #[.int .u64 ((rd_T43 l0 x36_1).f0), .int .u64 ((rd_T43 l0 x36_1).f1), .string ((rd_T43 l0 x36_1).f2), .slice none 0 0]) ?_ 3 _ rfl; (with_reducible repeat (first | refine kN_ ?_ _ | refine kD_ ?_ | refine kA_ ?_ _)); refine blk_put (cs := #[.int .u64 ((rd_T43 l0 x36_1).f0), .int .u64 ((rd_T43 l0 x36_1).f1), .string (⟨#[]⟩ : ByteArray), .slice none 0 0]) ?_ 2 _ rfl; (with_reducible repeat (first | refine kN_ ?_ _ | refine kD_ ?_ | refine kA_ ?_ _)); refine blk_put (cs := #[.int .u64 ((rd_T43 l0 x36_1).f0), .int .u64 0, .string (⟨#[]⟩ : ByteArray), .slice none 0 0]) ?_ 1 _ rfl; (with_reducible repeat (first | refine kN_ ?_ _ | refine kD_ ?_ | refine kA_ ?_ _)); refine blk_put (cs := #[.int .u64 0, .int .u64 0, .string (⟨#[]⟩ : ByteArray), .slice none 0 0]) ?_ 0 _ rfl; (with_reducible repeat (first | refine kN_ ?_ _ | refine kD_ ?_ | refine kA_ ?_ _)); exact BK143.out⟩, ⟨z13_⟩⟩
       case round =>
        clear H'
        try clear c1
        try clear p1
        try clear q1
        try clear hx1
        try clear p2
        try clear c4
        try clear c6
        try clear c6b0
        try clear c6b1
        try clear c10
        try clear c12
        try clear c12b0
        try clear c13
        try clear c13b0
        try clear c14
        try clear c14b0
        try clear p14
        try clear q14
        try clear hx14
        try clear c16
        try clear c17
        try clear hcz11_0
        try clear hcz11_1
        try clear hcz11_2
        try clear hcz11_3
        try clear hcz11_4
        try clear hcz11_5
        try clear hcz18_0
        try clear hcz18_1
        try clear hcz18_2
        try clear hcz18_3
        try clear hfz11_0
        try clear hfz11_1
        try clear hfz11_2
        try clear hfz11_3
        try clear hfz11_4
        try clear hfz11_5
        try clear hfz18_0
        try clear hfz18_1
        try clear hfz18_2
        try clear hfz18_3
        try clear hx142_0
        try clear hx142_1
        try clear hx142_2
        try clear hx142_3
        try clear p142
        try clear p2
        try clear q142
        obtain ⟨x43_2, x140004_2, u140004, rfl, HA, HK2, HO_140004, BK136, BK139, BK143, HB⟩ := hrel
        cases gk with
        | zero => exact absurd HA.out (by simp [slip_Make.l1])
        | succ k2 =>
         have H := HA.out
         clear HA
         simp only [slip_Make.l1] at H
         by_cases c19 : x43_2 < (((rd_T43 l0 x36_1).f3).length : Int)
         ·rw [if_pos c19] at H
          have c19b0 : decide (x43_2 < (((rd_T43 l0 x36_1).f3).length : Int)) = true := decide_eq_true c19
          clear c19
          by_cases c20 : 0 ≤ x43_2
          ·rw [if_pos c20] at H
           have c20b0 : decide (0 ≤ x43_2) = true := decide_eq_true c20
           clear c20
           by_cases c21 : x43_2 < (((rd_T43 l0 x36_1).f3).length : Int)
           ·rw [if_pos c21] at H
            have c21b0 : decide (x43_2 < (((rd_T43 l0 x36_1).f3).length : Int)) = true := decide_eq_true c21
            clear c21
            by_cases c22 : ((rd_T43 l0 x36_1).f1) = a3
            ·rw [if_pos c22] at H
             have c22b0 : (((rd_T43 l0 x36_1).f1) == a3) = true := beq_iff_eq.mpr c22
             have c22b1 : (((rd_T43 l0 x36_1).f1) != a3) = false := bne_eq_false_iff_eq.mpr c22
             clear c22
             by_cases c23 : ((rd_T40 ((rd_T43 l0 x36_1).f3) x43_2).f0).toList = a1.toList
             ·rw [if_pos c23] at H
              have c23b0 : (((rd_T40 ((rd_T43 l0 x36_1).f3) x43_2).f0).toList == a1.toList) = true := beq_iff_eq.mpr c23
              have c23b1 : (((rd_T40 ((rd_T43 l0 x36_1).f3) x43_2).f0).toList != a1.toList) = false := bne_eq_false_iff_eq.mpr c23
              clear c23
              by_cases c24 : ((rd_T40 ((rd_T43 l0 x36_1).f3) x43_2).f1).toList = a2.toList
              ·rw [if_pos c24] at H
               have c24b0 : (((rd_T40 ((rd_T43 l0 x36_1).f3) x43_2).f1).toList == a2.toList) = true := beq_iff_eq.mpr c24
               have c24b1 : (((rd_T40 ((rd_T43 l0 x36_1).f3) x43_2).f1).toList != a2.toList) = false := bne_eq_false_iff_eq.mpr c24
               clear c24
               by_cases c25 : x140004_2.length < 4398046511104
               ·rw [if_pos c25] at H
                have LMc25 := a_ c25
                clear c25
                obtain ⟨y146, hy146⟩ : ∃ y_ : List (S37), y_ = (x140004_2 ++ [(⟨((rd_T43 l0 x36_1).f0), ((rd_T43 l0 x36_1).f2), (rd_T40 ((rd_T43 l0 x36_1).f3) x43_2).f2⟩ : S37)]) := ⟨_, rfl⟩
                replace H : (slip_Make.l1 k2 a1 a2 a3 l0 (l0.length : Int) x36_1 ((rd_T43 l0 x36_1).f3) (((rd_T43 l0 x36_1).f3).length : Int) (wrap64 (x43_2 + 1)) a1 a2 a3 t137 y146 0 ((rd_T43 l0 x36_1).f0) ((rd_T43 l0 x36_1).f1) ((rd_T43 l0 x36_1).f2) ((rd_T43 l0 x36_1).f3)) = some (r1, r2, r3, r4, r5, r6, r7) := by first | (rw [hy146]; with_reducible exact H) | (have H2_ := (Option.bind_some _ _).symm.trans H; rw [hy146]; with_reducible exact H2_) | (have H2_ := (Option.bind_some _ _).symm.trans H; with_reducible exact H2_) | with_reducible exact H | (rw [hy146]; exact H) | exact H
                have Ny146 := a_ hy146
                clear hy146
                have H' := a_ H
                clear H
                have p144 : 0 ≤ (x43_2 : Int) := of_decide_eq_true z79_
                have q144 : x43_2 < (((rd_T43 l0 x36_1).f3).length : Int) := of_decide_eq_true z79_
                obtain ⟨ad144, e144, hx144_0, hx144_1, hx144_2⟩ := at_T40 HR142_3.out x43_2 p144 q144
                cases e144
                replace hx144_0 := (HB.out.cell (World.block_lt_of_cell? w _ hx144_0)).trans hx144_0
                replace hx144_1 := (HB.out.cell (World.block_lt_of_cell? w _ hx144_1)).trans hx144_1
                replace hx144_2 := (HB.out.cell (World.block_lt_of_cell? w _ hx144_2)).trans hx144_2
                replace p144 := eq_true p144
                replace q144 := eq_true q144
                go_wp2_with (first | ((with_reducible refine gate_dst (N := 16) rfl ?_); refine box_event ?hg (N := 16) ?hd (cs := #[.string (⟨#[]⟩ : ByteArray), .string (⟨#[]⟩ : ByteArray), .int .i64 0]) (t := 40) ?hr ?_; (case hd => rfl); (case hg => rfl); (case hr => first | (go_simp; done) | (go_simp; rfl)); intro gb145 hg w26 hbox hb; have n0_ := a_ (Kd.R_below z44_ hb); have n1_ := a_ (blk_below (g := gb136) (o := .cells #[.string (⟨#[]⟩ : ByteArray), .string (⟨#[]⟩ : ByteArray), .int .u64 0, .int .i64 0, .slice none 0 0, .int .i64 0] 25 (0, 0)) z71_ hb); have n2_ := a_ (blk_below (g := gb139) (o := .cells #[.string a1, .string a2, .int .u64 a3, .int .i64 t137, u140004, .int .i64 0] 25 (0, 0)) z72_ hb); have n3_ := a_ (blk_below (g := gb143) (o := .cells #[.int .u64 ((rd_T43 l0 x36_1).f0), .int .u64 ((rd_T43 l0 x36_1).f1), .string ((rd_T43 l0 x36_1).f2), .slice (some ad144) ((rd_T43 l0 x36_1).f3).length c142_3] 43 (0, 0)) z73_ hb); have n4_ := a_ (below_step z13_ hb); have n5_ := a_ (hbox); have n6_ := a_ ((z11_ : w.heap.size ≤ gb145)); have n7_ := a_ ((z11_ : w.heap.size ≤ gb145)); have n8_ := a_ ((by rw [hg]; exact Nat.ne_of_lt (blk_lt (g := gb136) (o := .cells #[.string (⟨#[]⟩ : ByteArray), .string (⟨#[]⟩ : ByteArray), .int .u64 0, .int .i64 0, .slice none 0 0, .int .i64 0] 25 (0, 0)) z71_) : gb136 ≠ gb145)); have n9_ := a_ ((by rw [hg]; exact Nat.ne_of_gt (blk_lt (g := gb136) (o := .cells #[.string (⟨#[]⟩ : ByteArray), .string (⟨#[]⟩ : ByteArray), .int .u64 0, .int .i64 0, .slice none 0 0, .int .i64 0] 25 (0, 0)) z71_) : gb145 ≠ gb136)); have n10_ := a_ ((by rw [hg]; exact Nat.ne_of_lt (blk_lt (g := gb139) (o := .cells #[.string a1, .string a2, .int .u64 a3, .int .i64 t137, u140004, .int .i64 0] 25 (0, 0)) z72_) : gb139 ≠ gb145)); have n11_ := a_ ((by rw [hg]; exact Nat.ne_of_gt (blk_lt (g := gb139) (o := .cells #[.string a1, .string a2, .int .u64 a3, .int .i64 t137, u140004, .int .i64 0] 25 (0, 0)) z72_) : gb145 ≠ gb139)); have n12_ := a_ ((by rw [hg]; exact Nat.ne_of_lt (blk_lt (g := gb143) (o := .cells #[.int .u64 ((rd_T43 l0 x36_1).f0), .int .u64 ((rd_T43 l0 x36_1).f1), .string ((rd_T43 l0 x36_1).f2), .slice (some ad144) ((rd_T43 l0 x36_1).f3).length c142_3] 43 (0, 0)) z73_) : gb143 ≠ gb145)); have n13_ := a_ ((by rw [hg]; exact Nat.ne_of_gt (blk_lt (g := gb143) (o := .cells #[.int .u64 ((rd_T43 l0 x36_1).f0), .int .u64 ((rd_T43 l0 x36_1).f1), .string ((rd_T43 l0 x36_1).f2), .slice (some ad144) ((rd_T43 l0 x36_1).f3).length c142_3] 43 (0, 0)) z73_) : gb145 ≠ gb143)); clear HO_140004; clear BK136; clear BK139; clear BK143; clear HB; have HO_140004 := n0_; have BK136 := n1_; have BK139 := n2_; have BK143 := n3_; have HB := n4_; have BK145 := n5_; have GW145 := n6_; have GE145 := n7_; have NB136_145 := n8_; have NB145_136 := n9_; have NB139_145 := n10_; have NB145_139 := n11_; have NB143_145 := n12_; have NB145_143 := n13_; clear n0_ n1_ n2_ n3_ n4_ n5_ n6_ n7_ n8_ n9_ n10_ n11_ n12_ n13_; clear hb hbox hg; have hnb27 := NB145_136.out; have hnc27 := NB136_145.out; have hnb28 := NB145_139.out; have hnc28 := NB139_145.out; have hnb29 := NB145_143.out; have hnc29 := NB143_145.out; have hcz30_0 : w26.cell? ⟨gb145, 0, none⟩ = some (.string (⟨#[]⟩ : ByteArray)) := (blk_cell BK145.out 0).trans rfl; have hcz30_1 : w26.cell? ⟨gb145, 1, none⟩ = some (.string (⟨#[]⟩ : ByteArray)) := (blk_cell BK145.out 1).trans rfl; have hcz30_2 : w26.cell? ⟨gb145, 2, none⟩ = some (.int .i64 0) := (blk_cell BK145.out 2).trans rfl; have hfz30_0 := blk_frozen BK145.out 0; have hfz30_1 := blk_frozen BK145.out 1; have hfz30_2 := blk_frozen BK145.out 2; have hnb31 := NB143_136.out; have hnc31 := NB136_143.out; have hnb32 := NB143_139.out; have hnc32 := NB139_143.out; have hcz33_0 : w26.cell? ⟨gb143, 0, none⟩ = some (.int .u64 ((rd_T43 l0 x36_1).f0)) := (blk_cell BK143.out 0).trans rfl; have hcz33_1 : w26.cell? ⟨gb143, 1, none⟩ = some (.int .u64 ((rd_T43 l0 x36_1).f1)) := (blk_cell BK143.out 1).trans rfl; have hcz33_2 : w26.cell? ⟨gb143, 2, none⟩ = some (.string ((rd_T43 l0 x36_1).f2)) := (blk_cell BK143.out 2).trans rfl; have hcz33_3 : w26.cell? ⟨gb143, 3, none⟩ = some (.slice (some ad144) ((rd_T43 l0 x36_1).f3).length c142_3) := (blk_cell BK143.out 3).trans rfl; have hfz33_0 := blk_frozen BK143.out 0; have hfz33_1 := blk_frozen BK143.out 1; have hfz33_2 := blk_frozen BK143.out 2; have hfz33_3 := blk_frozen BK143.out 3; have hnb34 := NB139_136.out; have hnc34 := NB136_139.out; have hcz35_0 : w26.cell? ⟨gb139, 0, none⟩ = some (.string a1) := (blk_cell BK139.out 0).trans rfl; have hcz35_1 : w26.cell? ⟨gb139, 1, none⟩ = some (.string a2) := (blk_cell BK139.out 1).trans rfl; have hcz35_2 : w26.cell? ⟨gb139, 2, none⟩ = some (.int .u64 a3) := (blk_cell BK139.out 2).trans rfl; have hcz35_3 : w26.cell? ⟨gb139, 3, none⟩ = some (.int .i64 t137) := (blk_cell BK139.out 3).trans rfl; have hcz35_4 : w26.cell? ⟨gb139, 4, none⟩ = some (u140004) := (blk_cell BK139.out 4).trans rfl; have hcz35_5 : w26.cell? ⟨gb139, 5, none⟩ = some (.int .i64 0) := (blk_cell BK139.out 5).trans rfl; have hfz35_0 := blk_frozen BK139.out 0; have hfz35_1 := blk_frozen BK139.out 1; have hfz35_2 := blk_frozen BK139.out 2; have hfz35_3 := blk_frozen BK139.out 3; have hfz35_4 := blk_frozen BK139.out 4; have hfz35_5 := blk_frozen BK139.out 5) | ((with_reducible refine gate_builtin (b := .append) (xs := #[.tmp 64, .tmp 72]) rfl ?_); at_builtin; refine Kd.R_append k37 (w0 := w) w.heap.size rfl (.tmp 64) (.tmp 72) 23 37 (.agg #[(.int .u64 0), (.string ⟨#[]⟩), (.int .i64 0)]) 32 rfl Tryz.underlying23 info37 rfl (by decide) (by omega) u140004 x140004_2 (⟨((rd_T43 l0 x36_1).f0), ((rd_T43 l0 x36_1).f2), (rd_T40 ((rd_T43 l0 x36_1).f3) x43_2).f2⟩ : S37) [.int .u64 ((rd_T43 l0 x36_1).f0), .string ((rd_T43 l0 x36_1).f2), .int .i64 ((rd_T40 ((rd_T43 l0 x36_1).f3) x43_2).f2)] (fun _ => True) (fun _ => False) rfl (by first | (go_simp; done) | (go_simp; rfl)) ?aP (fun _ hk => hk.elim) ?aF ?aO ?aB ?aS ?aL ?_; (case aP => exact k37_mkM _ _ _ (⟨((rd_T43 l0 x36_1).f0), ((rd_T43 l0 x36_1).f2), (rd_T40 ((rd_T43 l0 x36_1).f3) x43_2).f2⟩ : S37)); (case aB => exact z12_); (case aF => exact (fun _ _ => trivial)); (case aO => exact z3_); (case aS => exact (below_size z12_)); (case aL => have := LMc25.out; omega); intro v147 w36 ho hb hg hat; rw [← Ny146.out] at ho; have n0_ := a_ (blk_grown (g := gb136) (o := .cells #[.string (⟨#[]⟩ : ByteArray), .string (⟨#[]⟩ : ByteArray), .int .u64 0, .int .i64 0, .slice none 0 0, .int .i64 0] 25 (0, 0)) z5_ hg (Kd.R_ne HO_140004.out BK136.out (by decide))); have n1_ := a_ (blk_grown (g := gb139) (o := .cells #[.string a1, .string a2, .int .u64 a3, .int .i64 t137, u140004, .int .i64 0] 25 (0, 0)) z6_ hg (Kd.R_ne HO_140004.out BK139.out (by decide))); have n2_ := a_ (blk_grown (g := gb143) (o := .cells #[.int .u64 ((rd_T43 l0 x36_1).f0), .int .u64 ((rd_T43 l0 x36_1).f1), .string ((rd_T43 l0 x36_1).f2), .slice (some ad144) ((rd_T43 l0 x36_1).f3).length c142_3] 43 (0, 0)) z7_ hg (Kd.R_ne HO_140004.out BK143.out (by decide))); have n3_ := a_ (blk_grown (g := gb145) (o := .cells #[.string ((rd_T40 ((rd_T43 l0 x36_1).f3) x43_2).f0), .string ((rd_T40 ((rd_T43 l0 x36_1).f3) x43_2).f1), .int .i64 ((rd_T40 ((rd_T43 l0 x36_1).f3) x43_2).f2)] 40 (0, 0)) (by (with_reducible repeat (first | refine kN_ ?_ _ | refine kD_ ?_ | refine kA_ ?_ _)); refine blk_put (cs := #[.string ((rd_T40 ((rd_T43 l0 x36_1).f3) x43_2).f0), .string ((rd_T40 ((rd_T43 l0 x36_1).f3) x43_2).f1), .int .i64 0]) ?_ 2 _ rfl; (with_reducible repeat (first | refine kN_ ?_ _ | refine kD_ ?_ | refine kA_ ?_ _)); refine blk_put (cs := #[.string ((rd_T40 ((rd_T43 l0 x36_1).f3) x43_2).f0), .string (⟨#[]⟩ : ByteArray), .int .i64 0]) ?_ 1 _ rfl; (with_reducible repeat (first | refine kN_ ?_ _ | refine kD_ ?_ | refine kA_ ?_ _)); refine blk_put (cs := #[.string (⟨#[]⟩ : ByteArray), .string (⟨#[]⟩ : ByteArray), .int .i64 0]) ?_ 0 _ rfl; (with_reducible repeat (first | refine kN_ ?_ _ | refine kD_ ?_ | refine kA_ ?_ _)); exact BK145.out) hg (Kd.R_ne HO_140004.out BK145.out (by decide))); have n4_ := a_ (hb); have n5_ := a_ (ho); clear BK136; clear BK139; clear BK143; clear BK145; clear HB; clear HO_140004; have BK136 := n0_; have BK139 := n1_; have BK143 := n2_; have BK145 := n3_; have HB := n4_; have HO148 := n5_; clear n0_ n1_ n2_ n3_ n4_ n5_; clear ho hb hg hat; obtain ⟨Ao37, co37, eo37⟩ := Kd.R_slice HO148.out; subst eo37; have hcz38_0 : w36.cell? ⟨gb139, 0, none⟩ = some (.string a1) := (blk_cell BK139.out 0).trans rfl; have hcz38_1 : w36.cell? ⟨gb139, 1, none⟩ = some (.string a2) := (blk_cell BK139.out 1).trans rfl; have hcz38_2 : w36.cell? ⟨gb139, 2, none⟩ = some (.int .u64 a3) := (blk_cell BK139.out 2).trans rfl; have hcz38_3 : w36.cell? ⟨gb139, 3, none⟩ = some (.int .i64 t137) := (blk_cell BK139.out 3).trans rfl; have hcz38_4 : w36.cell? ⟨gb139, 4, none⟩ = some (u140004) := (blk_cell BK139.out 4).trans rfl; have hcz38_5 : w36.cell? ⟨gb139, 5, none⟩ = some (.int .i64 0) := (blk_cell BK139.out 5).trans rfl; have hfz38_0 := blk_frozen BK139.out 0; have hfz38_1 := blk_frozen BK139.out 1; have hfz38_2 := blk_frozen BK139.out 2; have hfz38_3 := blk_frozen BK139.out 3; have hfz38_4 := blk_frozen BK139.out 4; have hfz38_5 := blk_frozen BK139.out 5))
                go_roundg k2
                case measure => have := HK1.out; have := HK2.out; omega
                case rel => exact ⟨(wrap64 (x43_2 + 1)), (y146), (.slice Ao37 y146.length co37), z80_, H', ⟨z82_⟩, ⟨by (with_reducible repeat (first | apply Kd.R_alloc | apply Kd.R_drewN | apply Kd.R_drew)); exact Kd.R_mono (Kd.R_far (p := ⟨gb139, 4, none⟩) (Kd.R_types HO148.out BK139.out (by decide)) (fun _ hk => hk.2) (.slice Ao37 y146.length co37)) (fun _ hk => trivial)⟩, ⟨by (with_reducible repeat (first | refine kN_ ?_ _ | refine kD_ ?_ | refine kA_ ?_ _)); refine blk_far ?_ NB136_139.out _; (with_reducible repeat (first | refine kN_ ?_ _ | refine kD_ ?_ | refine kA_ ?_ _)); exact BK136.out⟩, ⟨by (with_reducible repeat (first | refine kN_ ?_ _ | refine kD_ ?_ | refine kA_ ?_ _)); refine blk_put (cs := #[.string a1, .string a2, .int .u64 a3, .int .i64 t137, u140004, .int .i64 0]) ?_ 4 _ rfl; (with_reducible repeat (first | refine kN_ ?_ _ | refine kD_ ?_ | refine kA_ ?_ _)); exact BK139.out⟩, ⟨by (with_reducible repeat (first | refine kN_ ?_ _ | refine kD_ ?_ | refine kA_ ?_ _)); refine blk_far ?_ NB143_139.out _; (with_reducible repeat (first | refine kN_ ?_ _ | refine kD_ ?_ | refine kA_ ?_ _)); exact BK143.out⟩, ⟨z12_⟩⟩
               ·rw [if_neg c25] at H
                exact absurd H (by simp)
              ·rw [if_neg c24] at H
               have c24b0 : (((rd_T40 ((rd_T43 l0 x36_1).f3) x43_2).f1).toList == a2.toList) = false := beq_eq_false_iff_ne.mpr c24
               have c24b1 : (((rd_T40 ((rd_T43 l0 x36_1).f3) x43_2).f1).toList != a2.toList) = true := bne_iff_ne.mpr c24
               have H' := a_ H
               clear H
               have p144 : 0 ≤ (x43_2 : Int) := of_decide_eq_true z79_
               have q144 : x43_2 < (((rd_T43 l0 x36_1).f3).length : Int) := of_decide_eq_true z79_
               obtain ⟨ad144, e144, hx144_0, hx144_1, hx144_2⟩ := at_T40 HR142_3.out x43_2 p144 q144
               cases e144
               replace hx144_0 := (HB.out.cell (World.block_lt_of_cell? w _ hx144_0)).trans hx144_0
               replace hx144_1 := (HB.out.cell (World.block_lt_of_cell? w _ hx144_1)).trans hx144_1
               replace hx144_2 := (HB.out.cell (World.block_lt_of_cell? w _ hx144_2)).trans hx144_2
               replace p144 := eq_true p144
               replace q144 := eq_true q144
               go_wp2_with (first | ((with_reducible refine gate_dst (N := 16) rfl ?_); refine box_event ?hg (N := 16) ?hd (cs := #[.string (⟨#[]⟩ : ByteArray), .string (⟨#[]⟩ : ByteArray), .int .i64 0]) (t := 40) ?hr ?_; (case hd => rfl); (case hg => rfl); (case hr => first | (go_simp; done) | (go_simp; rfl)); intro gb145 hg w39 hbox hb; have n0_ := a_ (Kd.R_below z44_ hb); have n1_ := a_ (blk_below (g := gb136) (o := .cells #[.string (⟨#[]⟩ : ByteArray), .string (⟨#[]⟩ : ByteArray), .int .u64 0, .int .i64 0, .slice none 0 0, .int .i64 0] 25 (0, 0)) z71_ hb); have n2_ := a_ (blk_below (g := gb139) (o := .cells #[.string a1, .string a2, .int .u64 a3, .int .i64 t137, u140004, .int .i64 0] 25 (0, 0)) z72_ hb); have n3_ := a_ (blk_below (g := gb143) (o := .cells #[.int .u64 ((rd_T43 l0 x36_1).f0), .int .u64 ((rd_T43 l0 x36_1).f1), .string ((rd_T43 l0 x36_1).f2), .slice (some ad144) ((rd_T43 l0 x36_1).f3).length c142_3] 43 (0, 0)) z73_ hb); have n4_ := a_ (below_step z13_ hb); have n5_ := a_ (hbox); have n6_ := a_ ((z11_ : w.heap.size ≤ gb145)); have n7_ := a_ ((z11_ : w.heap.size ≤ gb145)); have n8_ := a_ ((by rw [hg]; exact Nat.ne_of_lt (blk_lt (g := gb136) (o := .cells #[.string (⟨#[]⟩ : ByteArray), .string (⟨#[]⟩ : ByteArray), .int .u64 0, .int .i64 0, .slice none 0 0, .int .i64 0] 25 (0, 0)) z71_) : gb136 ≠ gb145)); have n9_ := a_ ((by rw [hg]; exact Nat.ne_of_gt (blk_lt (g := gb136) (o := .cells #[.string (⟨#[]⟩ : ByteArray), .string (⟨#[]⟩ : ByteArray), .int .u64 0, .int .i64 0, .slice none 0 0, .int .i64 0] 25 (0, 0)) z71_) : gb145 ≠ gb136)); have n10_ := a_ ((by rw [hg]; exact Nat.ne_of_lt (blk_lt (g := gb139) (o := .cells #[.string a1, .string a2, .int .u64 a3, .int .i64 t137, u140004, .int .i64 0] 25 (0, 0)) z72_) : gb139 ≠ gb145)); have n11_ := a_ ((by rw [hg]; exact Nat.ne_of_gt (blk_lt (g := gb139) (o := .cells #[.string a1, .string a2, .int .u64 a3, .int .i64 t137, u140004, .int .i64 0] 25 (0, 0)) z72_) : gb145 ≠ gb139)); have n12_ := a_ ((by rw [hg]; exact Nat.ne_of_lt (blk_lt (g := gb143) (o := .cells #[.int .u64 ((rd_T43 l0 x36_1).f0), .int .u64 ((rd_T43 l0 x36_1).f1), .string ((rd_T43 l0 x36_1).f2), .slice (some ad144) ((rd_T43 l0 x36_1).f3).length c142_3] 43 (0, 0)) z73_) : gb143 ≠ gb145)); have n13_ := a_ ((by rw [hg]; exact Nat.ne_of_gt (blk_lt (g := gb143) (o := .cells #[.int .u64 ((rd_T43 l0 x36_1).f0), .int .u64 ((rd_T43 l0 x36_1).f1), .string ((rd_T43 l0 x36_1).f2), .slice (some ad144) ((rd_T43 l0 x36_1).f3).length c142_3] 43 (0, 0)) z73_) : gb145 ≠ gb143)); clear HO_140004; clear BK136; clear BK139; clear BK143; clear HB; have HO_140004 := n0_; have BK136 := n1_; have BK139 := n2_; have BK143 := n3_; have HB := n4_; have BK145 := n5_; have GW145 := n6_; have GE145 := n7_; have NB136_145 := n8_; have NB145_136 := n9_; have NB139_145 := n10_; have NB145_139 := n11_; have NB143_145 := n12_; have NB145_143 := n13_; clear n0_ n1_ n2_ n3_ n4_ n5_ n6_ n7_ n8_ n9_ n10_ n11_ n12_ n13_; clear hb hbox hg; have hnb40 := NB145_136.out; have hnc40 := NB136_145.out; have hnb41 := NB145_139.out; have hnc41 := NB139_145.out; have hnb42 := NB145_143.out; have hnc42 := NB143_145.out; have hcz43_0 : w39.cell? ⟨gb145, 0, none⟩ = some (.string (⟨#[]⟩ : ByteArray)) := (blk_cell BK145.out 0).trans rfl; have hcz43_1 : w39.cell? ⟨gb145, 1, none⟩ = some (.string (⟨#[]⟩ : ByteArray)) := (blk_cell BK145.out 1).trans rfl; have hcz43_2 : w39.cell? ⟨gb145, 2, none⟩ = some (.int .i64 0) := (blk_cell BK145.out 2).trans rfl; have hfz43_0 := blk_frozen BK145.out 0; have hfz43_1 := blk_frozen BK145.out 1; have hfz43_2 := blk_frozen BK145.out 2; have hnb44 := NB143_136.out; have hnc44 := NB136_143.out; have hnb45 := NB143_139.out; have hnc45 := NB139_143.out; have hcz46_0 : w39.cell? ⟨gb143, 0, none⟩ = some (.int .u64 ((rd_T43 l0 x36_1).f0)) := (blk_cell BK143.out 0).trans rfl; have hcz46_1 : w39.cell? ⟨gb143, 1, none⟩ = some (.int .u64 ((rd_T43 l0 x36_1).f1)) := (blk_cell BK143.out 1).trans rfl; have hcz46_2 : w39.cell? ⟨gb143, 2, none⟩ = some (.string ((rd_T43 l0 x36_1).f2)) := (blk_cell BK143.out 2).trans rfl; have hcz46_3 : w39.cell? ⟨gb143, 3, none⟩ = some (.slice (some ad144) ((rd_T43 l0 x36_1).f3).length c142_3) := (blk_cell BK143.out 3).trans rfl; have hfz46_0 := blk_frozen BK143.out 0; have hfz46_1 := blk_frozen BK143.out 1; have hfz46_2 := blk_frozen BK143.out 2; have hfz46_3 := blk_frozen BK143.out 3))
               go_roundg k2
               case measure => have := HK1.out; have := HK2.out; omega
               case rel => exact ⟨(wrap64 (x43_2 + 1)), (x140004_2), (u140004), z80_, H', ⟨z82_⟩, ⟨z3_⟩, ⟨z5_⟩, ⟨z6_⟩, ⟨z7_⟩, ⟨z12_⟩⟩
             ·rw [if_neg c23] at H
              have c23b0 : (((rd_T40 ((rd_T43 l0 x36_1).f3) x43_2).f0).toList == a1.toList) = false := beq_eq_false_iff_ne.mpr c23
              have c23b1 : (((rd_T40 ((rd_T43 l0 x36_1).f3) x43_2).f0).toList != a1.toList) = true := bne_iff_ne.mpr c23
              have H' := a_ H
              clear H
              have p144 : 0 ≤ (x43_2 : Int) := of_decide_eq_true z79_
              have q144 : x43_2 < (((rd_T43 l0 x36_1).f3).length : Int) := of_decide_eq_true z79_
              obtain ⟨ad144, e144, hx144_0, hx144_1, hx144_2⟩ := at_T40 HR142_3.out x43_2 p144 q144
              cases e144
              replace hx144_0 := (HB.out.cell (World.block_lt_of_cell? w _ hx144_0)).trans hx144_0
              replace hx144_1 := (HB.out.cell (World.block_lt_of_cell? w _ hx144_1)).trans hx144_1
              replace hx144_2 := (HB.out.cell (World.block_lt_of_cell? w _ hx144_2)).trans hx144_2
              replace p144 := eq_true p144
              replace q144 := eq_true q144
              go_wp2_with (first | ((with_reducible refine gate_dst (N := 16) rfl ?_); refine box_event ?hg (N := 16) ?hd (cs := #[.string (⟨#[]⟩ : ByteArray), .string (⟨#[]⟩ : ByteArray), .int .i64 0]) (t := 40) ?hr ?_; (case hd => rfl); (case hg => rfl); (case hr => first | (go_simp; done) | (go_simp; rfl)); intro gb145 hg w47 hbox hb; have n0_ := a_ (Kd.R_below z44_ hb); have n1_ := a_ (blk_below (g := gb136) (o := .cells #[.string (⟨#[]⟩ : ByteArray), .string (⟨#[]⟩ : ByteArray), .int .u64 0, .int .i64 0, .slice none 0 0, .int .i64 0] 25 (0, 0)) z71_ hb); have n2_ := a_ (blk_below (g := gb139) (o := .cells #[.string a1, .string a2, .int .u64 a3, .int .i64 t137, u140004, .int .i64 0] 25 (0, 0)) z72_ hb); have n3_ := a_ (blk_below (g := gb143) (o := .cells #[.int .u64 ((rd_T43 l0 x36_1).f0), .int .u64 ((rd_T43 l0 x36_1).f1), .string ((rd_T43 l0 x36_1).f2), .slice (some ad144) ((rd_T43 l0 x36_1).f3).length c142_3] 43 (0, 0)) z73_ hb); have n4_ := a_ (below_step z13_ hb); have n5_ := a_ (hbox); have n6_ := a_ ((z11_ : w.heap.size ≤ gb145)); have n7_ := a_ ((z11_ : w.heap.size ≤ gb145)); have n8_ := a_ ((by rw [hg]; exact Nat.ne_of_lt (blk_lt (g := gb136) (o := .cells #[.string (⟨#[]⟩ : ByteArray), .string (⟨#[]⟩ : ByteArray), .int .u64 0, .int .i64 0, .slice none 0 0, .int .i64 0] 25 (0, 0)) z71_) : gb136 ≠ gb145)); have n9_ := a_ ((by rw [hg]; exact Nat.ne_of_gt (blk_lt (g := gb136) (o := .cells #[.string (⟨#[]⟩ : ByteArray), .string (⟨#[]⟩ : ByteArray), .int .u64 0, .int .i64 0, .slice none 0 0, .int .i64 0] 25 (0, 0)) z71_) : gb145 ≠ gb136)); have n10_ := a_ ((by rw [hg]; exact Nat.ne_of_lt (blk_lt (g := gb139) (o := .cells #[.string a1, .string a2, .int .u64 a3, .int .i64 t137, u140004, .int .i64 0] 25 (0, 0)) z72_) : gb139 ≠ gb145)); have n11_ := a_ ((by rw [hg]; exact Nat.ne_of_gt (blk_lt (g := gb139) (o := .cells #[.string a1, .string a2, .int .u64 a3, .int .i64 t137, u140004, .int .i64 0] 25 (0, 0)) z72_) : gb145 ≠ gb139)); have n12_ := a_ ((by rw [hg]; exact Nat.ne_of_lt (blk_lt (g := gb143) (o := .cells #[.int .u64 ((rd_T43 l0 x36_1).f0), .int .u64 ((rd_T43 l0 x36_1).f1), .string ((rd_T43 l0 x36_1).f2), .slice (some ad144) ((rd_T43 l0 x36_1).f3).length c142_3] 43 (0, 0)) z73_) : gb143 ≠ gb145)); have n13_ := a_ ((by rw [hg]; exact Nat.ne_of_gt (blk_lt (g := gb143) (o := .cells #[.int .u64 ((rd_T43 l0 x36_1).f0), .int .u64 ((rd_T43 l0 x36_1).f1), .string ((rd_T43 l0 x36_1).f2), .slice (some ad144) ((rd_T43 l0 x36_1).f3).length c142_3] 43 (0, 0)) z73_) : gb145 ≠ gb143)); clear HO_140004; clear BK136; clear BK139; clear BK143; clear HB; have HO_140004 := n0_; have BK136 := n1_; have BK139 := n2_; have BK143 := n3_; have HB := n4_; have BK145 := n5_; have GW145 := n6_; have GE145 := n7_; have NB136_145 := n8_; have NB145_136 := n9_; have NB139_145 := n10_; have NB145_139 := n11_; have NB143_145 := n12_; have NB145_143 := n13_; clear n0_ n1_ n2_ n3_ n4_ n5_ n6_ n7_ n8_ n9_ n10_ n11_ n12_ n13_; clear hb hbox hg; have hnb48 := NB145_136.out; have hnc48 := NB136_145.out; have hnb49 := NB145_139.out; have hnc49 := NB139_145.out; have hnb50 := NB145_143.out; have hnc50 := NB143_145.out; have hcz51_0 : w47.cell? ⟨gb145, 0, none⟩ = some (.string (⟨#[]⟩ : ByteArray)) := (blk_cell BK145.out 0).trans rfl; have hcz51_1 : w47.cell? ⟨gb145, 1, none⟩ = some (.string (⟨#[]⟩ : ByteArray)) := (blk_cell BK145.out 1).trans rfl; have hcz51_2 : w47.cell? ⟨gb145, 2, none⟩ = some (.int .i64 0) := (blk_cell BK145.out 2).trans rfl; have hfz51_0 := blk_frozen BK145.out 0; have hfz51_1 := blk_frozen BK145.out 1; have hfz51_2 := blk_frozen BK145.out 2; have hnb52 := NB143_136.out; have hnc52 := NB136_143.out; have hnb53 := NB143_139.out; have hnc53 := NB139_143.out; have hcz54_0 : w47.cell? ⟨gb143, 0, none⟩ = some (.int .u64 ((rd_T43 l0 x36_1).f0)) := (blk_cell BK143.out 0).trans rfl; have hcz54_1 : w47.cell? ⟨gb143, 1, none⟩ = some (.int .u64 ((rd_T43 l0 x36_1).f1)) := (blk_cell BK143.out 1).trans rfl; have hcz54_2 : w47.cell? ⟨gb143, 2, none⟩ = some (.string ((rd_T43 l0 x36_1).f2)) := (blk_cell BK143.out 2).trans rfl; have hcz54_3 : w47.cell? ⟨gb143, 3, none⟩ = some (.slice (some ad144) ((rd_T43 l0 x36_1).f3).length c142_3) := (blk_cell BK143.out 3).trans rfl; have hfz54_0 := blk_frozen BK143.out 0; have hfz54_1 := blk_frozen BK143.out 1; have hfz54_2 := blk_frozen BK143.out 2; have hfz54_3 := blk_frozen BK143.out 3))
              go_roundg k2
              case measure => have := HK1.out; have := HK2.out; omega
              case rel => exact ⟨(wrap64 (x43_2 + 1)), (x140004_2), (u140004), z80_, H', ⟨z82_⟩, ⟨z3_⟩, ⟨z5_⟩, ⟨z6_⟩, ⟨z7_⟩, ⟨z12_⟩⟩
            ·rw [if_neg c22] at H
             have c22b0 : (((rd_T43 l0 x36_1).f1) == a3) = false := beq_eq_false_iff_ne.mpr c22
             have c22b1 : (((rd_T43 l0 x36_1).f1) != a3) = true := bne_iff_ne.mpr c22
             have H' := a_ H
             clear H
             have p144 : 0 ≤ (x43_2 : Int) := of_decide_eq_true z79_
             have q144 : x43_2 < (((rd_T43 l0 x36_1).f3).length : Int) := of_decide_eq_true z79_
             obtain ⟨ad144, e144, hx144_0, hx144_1, hx144_2⟩ := at_T40 HR142_3.out x43_2 p144 q144
             cases e144
             replace hx144_0 := (HB.out.cell (World.block_lt_of_cell? w _ hx144_0)).trans hx144_0
             replace hx144_1 := (HB.out.cell (World.block_lt_of_cell? w _ hx144_1)).trans hx144_1
             replace hx144_2 := (HB.out.cell (World.block_lt_of_cell? w _ hx144_2)).trans hx144_2
             replace p144 := eq_true p144
             replace q144 := eq_true q144
             go_wp2_with (first | ((with_reducible refine gate_dst (N := 16) rfl ?_); refine box_event ?hg (N := 16) ?hd (cs := #[.string (⟨#[]⟩ : ByteArray), .string (⟨#[]⟩ : ByteArray), .int .i64 0]) (t := 40) ?hr ?_; (case hd => rfl); (case hg => rfl); (case hr => first | (go_simp; done) | (go_simp; rfl)); intro gb145 hg w55 hbox hb; have n0_ := a_ (Kd.R_below z44_ hb); have n1_ := a_ (blk_below (g := gb136) (o := .cells #[.string (⟨#[]⟩ : ByteArray), .string (⟨#[]⟩ : ByteArray), .int .u64 0, .int .i64 0, .slice none 0 0, .int .i64 0] 25 (0, 0)) z71_ hb); have n2_ := a_ (blk_below (g := gb139) (o := .cells #[.string a1, .string a2, .int .u64 a3, .int .i64 t137, u140004, .int .i64 0] 25 (0, 0)) z72_ hb); have n3_ := a_ (blk_below (g := gb143) (o := .cells #[.int .u64 ((rd_T43 l0 x36_1).f0), .int .u64 ((rd_T43 l0 x36_1).f1), .string ((rd_T43 l0 x36_1).f2), .slice (some ad144) ((rd_T43 l0 x36_1).f3).length c142_3] 43 (0, 0)) z73_ hb); have n4_ := a_ (below_step z13_ hb); have n5_ := a_ (hbox); have n6_ := a_ ((z11_ : w.heap.size ≤ gb145)); have n7_ := a_ ((z11_ : w.heap.size ≤ gb145)); have n8_ := a_ ((by rw [hg]; exact Nat.ne_of_lt (blk_lt (g := gb136) (o := .cells #[.string (⟨#[]⟩ : ByteArray), .string (⟨#[]⟩ : ByteArray), .int .u64 0, .int .i64 0, .slice none 0 0, .int .i64 0] 25 (0, 0)) z71_) : gb136 ≠ gb145)); have n9_ := a_ ((by rw [hg]; exact Nat.ne_of_gt (blk_lt (g := gb136) (o := .cells #[.string (⟨#[]⟩ : ByteArray), .string (⟨#[]⟩ : ByteArray), .int .u64 0, .int .i64 0, .slice none 0 0, .int .i64 0] 25 (0, 0)) z71_) : gb145 ≠ gb136)); have n10_ := a_ ((by rw [hg]; exact Nat.ne_of_lt (blk_lt (g := gb139) (o := .cells #[.string a1, .string a2, .int .u64 a3, .int .i64 t137, u140004, .int .i64 0] 25 (0, 0)) z72_) : gb139 ≠ gb145)); have n11_ := a_ ((by rw [hg]; exact Nat.ne_of_gt (blk_lt (g := gb139) (o := .cells #[.string a1, .string a2, .int .u64 a3, .int .i64 t137, u140004, .int .i64 0] 25 (0, 0)) z72_) : gb145 ≠ gb139)); have n12_ := a_ ((by rw [hg]; exact Nat.ne_of_lt (blk_lt (g := gb143) (o := .cells #[.int .u64 ((rd_T43 l0 x36_1).f0), .int .u64 ((rd_T43 l0 x36_1).f1), .string ((rd_T43 l0 x36_1).f2), .slice (some ad144) ((rd_T43 l0 x36_1).f3).length c142_3] 43 (0, 0)) z73_) : gb143 ≠ gb145)); have n13_ := a_ ((by rw [hg]; exact Nat.ne_of_gt (blk_lt (g := gb143) (o := .cells #[.int .u64 ((rd_T43 l0 x36_1).f0), .int .u64 ((rd_T43 l0 x36_1).f1), .string ((rd_T43 l0 x36_1).f2), .slice (some ad144) ((rd_T43 l0 x36_1).f3).length c142_3] 43 (0, 0)) z73_) : gb145 ≠ gb143)); clear HO_140004; clear BK136; clear BK139; clear BK143; clear HB; have HO_140004 := n0_; have BK136 := n1_; have BK139 := n2_; have BK143 := n3_; have HB := n4_; have BK145 := n5_; have GW145 := n6_; have GE145 := n7_; have NB136_145 := n8_; have NB145_136 := n9_; have NB139_145 := n10_; have NB145_139 := n11_; have NB143_145 := n12_; have NB145_143 := n13_; clear n0_ n1_ n2_ n3_ n4_ n5_ n6_ n7_ n8_ n9_ n10_ n11_ n12_ n13_; clear hb hbox hg; have hnb56 := NB145_136.out; have hnc56 := NB136_145.out; have hnb57 := NB145_139.out; have hnc57 := NB139_145.out; have hnb58 := NB145_143.out; have hnc58 := NB143_145.out; have hcz59_0 : w55.cell? ⟨gb145, 0, none⟩ = some (.string (⟨#[]⟩ : ByteArray)) := (blk_cell BK145.out 0).trans rfl; have hcz59_1 : w55.cell? ⟨gb145, 1, none⟩ = some (.string (⟨#[]⟩ : ByteArray)) := (blk_cell BK145.out 1).trans rfl; have hcz59_2 : w55.cell? ⟨gb145, 2, none⟩ = some (.int .i64 0) := (blk_cell BK145.out 2).trans rfl; have hfz59_0 := blk_frozen BK145.out 0; have hfz59_1 := blk_frozen BK145.out 1; have hfz59_2 := blk_frozen BK145.out 2; have hnb60 := NB143_136.out; have hnc60 := NB136_143.out; have hnb61 := NB143_139.out; have hnc61 := NB139_143.out; have hcz62_0 : w55.cell? ⟨gb143, 0, none⟩ = some (.int .u64 ((rd_T43 l0 x36_1).f0)) := (blk_cell BK143.out 0).trans rfl; have hcz62_1 : w55.cell? ⟨gb143, 1, none⟩ = some (.int .u64 ((rd_T43 l0 x36_1).f1)) := (blk_cell BK143.out 1).trans rfl; have hcz62_2 : w55.cell? ⟨gb143, 2, none⟩ = some (.string ((rd_T43 l0 x36_1).f2)) := (blk_cell BK143.out 2).trans rfl; have hcz62_3 : w55.cell? ⟨gb143, 3, none⟩ = some (.slice (some ad144) ((rd_T43 l0 x36_1).f3).length c142_3) := (blk_cell BK143.out 3).trans rfl; have hfz62_0 := blk_frozen BK143.out 0; have hfz62_1 := blk_frozen BK143.out 1; have hfz62_2 := blk_frozen BK143.out 2; have hfz62_3 := blk_frozen BK143.out 3))
             go_roundg k2
             case measure => have := HK1.out; have := HK2.out; omega
             case rel => exact ⟨(wrap64 (x43_2 + 1)), (x140004_2), (u140004), z80_, H', ⟨z82_⟩, ⟨z3_⟩, ⟨z5_⟩, ⟨z6_⟩, ⟨z7_⟩, ⟨z12_⟩⟩
           ·rw [if_neg c21] at H
            exact absurd H (by simp)
          ·rw [if_neg c20] at H
           exact absurd H (by simp)
         ·rw [if_neg c19] at H
          have c19b0 : decide (x43_2 < (((rd_T43 l0 x36_1).f3).length : Int)) = false := decide_eq_false c19
          clear c19
          have H' := a_ H
          clear H
          go_wp2
          go_roundg k2
          case measure => have := HK1.out; have := HK2.out; omega
          case rel => exact ⟨(wrap64 (x36_1 + 1)), (x140004_2), (u140004), z80_, H', ⟨z82_⟩, ⟨z44_⟩, ⟨z71_⟩, ⟨z72_⟩, ⟨z13_⟩⟩
      ·rw [if_neg c14] at H
       exact absurd H (by simp)
     ·rw [if_neg c13] at H
      exact absurd H (by simp)
    ·rw [if_neg c12] at H
     have c12b0 : decide (x36_1 < (l0.length : Int)) = false := decide_eq_false c12
     clear c12
     replace H := Option.bind_eq_some_iff.mp H
     obtain ⟨⟨t140, t141⟩, A630, H⟩ := H
     replace H : (if t141 = 0 then (some (a1, a2, a3, t137, x140004_1, t140, 0)) else (some ((⟨#[]⟩ : ByteArray), (⟨#[]⟩ : ByteArray), 0, 0, ([] : List (S37)), 0, t141))) = some (r1, r2, r3, r4, r5, r6, r7) := H
     have A63 := a_ A630
     clear A630
     by_cases c64 : t141 = 0
     ·rw [if_pos c64] at H
      have c64b0 : (t141 == 0) = true := beq_iff_eq.mpr c64
      have c64b1 : (t141 != 0) = false := bne_eq_false_iff_eq.mpr c64
      clear c64
      simp only [Option.some.injEq, Prod.mk.injEq] at H
      obtain ⟨rfl, rfl, rfl, rfl, rfl, rfl, rfl⟩ := H
      have hnb65 := NB139_136.out
      have hnc65 := NB136_139.out
      have hcz66_0 : wr.cell? ⟨gb139, 0, none⟩ = some (.string a1) := (blk_cell BK139.out 0).trans rfl
      have hcz66_1 : wr.cell? ⟨gb139, 1, none⟩ = some (.string a2) := (blk_cell BK139.out 1).trans rfl
      have hcz66_2 : wr.cell? ⟨gb139, 2, none⟩ = some (.int .u64 a3) := (blk_cell BK139.out 2).trans rfl
      have hcz66_3 : wr.cell? ⟨gb139, 3, none⟩ = some (.int .i64 t137) := (blk_cell BK139.out 3).trans rfl
      have hcz66_4 : wr.cell? ⟨gb139, 4, none⟩ = some (u140004) := (blk_cell BK139.out 4).trans rfl
      have hcz66_5 : wr.cell? ⟨gb139, 5, none⟩ = some (.int .i64 0) := (blk_cell BK139.out 5).trans rfl
      have hfz66_0 := blk_frozen BK139.out 0
      have hfz66_1 := blk_frozen BK139.out 1
      have hfz66_2 := blk_frozen BK139.out 2
      have hfz66_3 := blk_frozen BK139.out 3
      have hfz66_4 := blk_frozen BK139.out 4
      have hfz66_5 := blk_frozen BK139.out 5
      obtain ⟨Ao67, co67, eo67⟩ := Kd.R_slice HO_140004.out
      subst eo67
      go_wp2_with (first | ((with_reducible refine gate_callee (f := 32) rfl ?_); refine goesL_ (some 79) rfl rfl Tryz.func32 z85_ rfl #[.agg #[.string a1, .string a2, .int .u64 a3, .int .i64 t137, .slice Ao67 x140004_1.length co67, .int .i64 0]] rfl z31_ ?_; (with_reducible refine (slip_whole.calls k1 a1 a2 a3 t137 _ _ x140004_1 0 t140 t141 _ ?side1 ?side2 ?side3 A63.out).mono ?_); (case side1 => exact Glob.below HG.out z24_); (case side2 => repeat (first | exact (Kd.R_reads' HO_140004.out).2.2 | (with_reducible refine Kd.C_alloc ?_ _) | (with_reducible refine Kd.C_drewN ?_ _) | (with_reducible refine Kd.C_drew ?_))); (case side3 => exact (Kd.R_reads' HO_140004.out).2.1); rintro e w68 ⟨rfl, hb⟩; refine ⟨_, rfl, ?_⟩; have n0_ := a_ (Kd.R_below z44_ hb); have n1_ := a_ (blk_below (g := gb136) (o := .cells #[.string (⟨#[]⟩ : ByteArray), .string (⟨#[]⟩ : ByteArray), .int .u64 0, .int .i64 0, .slice none 0 0, .int .i64 0] 25 (0, 0)) z71_ hb); have n2_ := a_ (blk_below (g := gb139) (o := .cells #[.string a1, .string a2, .int .u64 a3, .int .i64 t137, .slice Ao67 x140004_1.length co67, .int .i64 0] 25 (0, 0)) z72_ hb); have n3_ := a_ (below_step z24_ hb); clear HO_140004; clear BK136; clear BK139; clear HB; have HO_140004 := n0_; have BK136 := n1_; have BK139 := n2_; have HB := n3_; clear n0_ n1_ n2_ n3_; (try clear hb); (try clear hb2); (try clear hk); (try clear hi); have hcz69_0 : w68.cell? ⟨gb139, 0, none⟩ = some (.string a1) := (blk_cell BK139.out 0).trans rfl; have hcz69_1 : w68.cell? ⟨gb139, 1, none⟩ = some (.string a2) := (blk_cell BK139.out 1).trans rfl; have hcz69_2 : w68.cell? ⟨gb139, 2, none⟩ = some (.int .u64 a3) := (blk_cell BK139.out 2).trans rfl; have hcz69_3 : w68.cell? ⟨gb139, 3, none⟩ = some (.int .i64 t137) := (blk_cell BK139.out 3).trans rfl; have hcz69_4 : w68.cell? ⟨gb139, 4, none⟩ = some (.slice Ao67 x140004_1.length co67) := (blk_cell BK139.out 4).trans rfl; have hcz69_5 : w68.cell? ⟨gb139, 5, none⟩ = some (.int .i64 0) := (blk_cell BK139.out 5).trans rfl; have hfz69_0 := blk_frozen BK139.out 0; have hfz69_1 := blk_frozen BK139.out 1; have hfz69_2 := blk_frozen BK139.out 2; have hfz69_3 := blk_frozen BK139.out 3; have hfz69_4 := blk_frozen BK139.out 4; have hfz69_5 := blk_frozen BK139.out 5; have hcz70_0 : w68.cell? ⟨gb136, 0, none⟩ = some (.string (⟨#[]⟩ : ByteArray)) := (blk_cell BK136.out 0).trans rfl; have hcz70_1 : w68.cell? ⟨gb136, 1, none⟩ = some (.string (⟨#[]⟩ : ByteArray)) := (blk_cell BK136.out 1).trans rfl; have hcz70_2 : w68.cell? ⟨gb136, 2, none⟩ = some (.int .u64 0) := (blk_cell BK136.out 2).trans rfl; have hcz70_3 : w68.cell? ⟨gb136, 3, none⟩ = some (.int .i64 0) := (blk_cell BK136.out 3).trans rfl; have hcz70_4 : w68.cell? ⟨gb136, 4, none⟩ = some (.slice none 0 0) := (blk_cell BK136.out 4).trans rfl; have hcz70_5 : w68.cell? ⟨gb136, 5, none⟩ = some (.int .i64 0) := (blk_cell BK136.out 5).trans rfl; have hfz70_0 := blk_frozen BK136.out 0; have hfz70_1 := blk_frozen BK136.out 1; have hfz70_2 := blk_frozen BK136.out 2; have hfz70_3 := blk_frozen BK136.out 3; have hfz70_4 := blk_frozen BK136.out 4; have hfz70_5 := blk_frozen BK136.out 5))
      refine bodyPost_ret (results_ct rfl _ _ gb136 25 #[.string a1, .string a2, .int .u64 a3, .int .i64 t137, .slice Ao67 x140004_1.length co67, .int .i64 t140] (0, 0) _ rfl (by (with_reducible repeat (first | refine kN_ ?_ _ | refine kD_ ?_ | refine kA_ ?_ _)); refine blk_put (cs := #[.string a1, .string a2, .int .u64 a3, .int .i64 t137, .slice Ao67 x140004_1.length co67, .int .i64 0]) ?_ 5 _ rfl; (with_reducible repeat (first | refine kN_ ?_ _ | refine kD_ ?_ | refine kA_ ?_ _)); refine blk_put (cs := #[.string a1, .string a2, .int .u64 a3, .int .i64 t137, .slice none 0 0, .int .i64 0]) ?_ 4 _ rfl; (with_reducible repeat (first | refine kN_ ?_ _ | refine kD_ ?_ | refine kA_ ?_ _)); refine blk_put (cs := #[.string a1, .string a2, .int .u64 a3, .int .i64 0, .slice none 0 0, .int .i64 0]) ?_ 3 _ rfl; (with_reducible repeat (first | refine kN_ ?_ _ | refine kD_ ?_ | refine kA_ ?_ _)); refine blk_put (cs := #[.string a1, .string a2, .int .u64 0, .int .i64 0, .slice none 0 0, .int .i64 0]) ?_ 2 _ rfl; (with_reducible repeat (first | refine kN_ ?_ _ | refine kD_ ?_ | refine kA_ ?_ _)); refine blk_put (cs := #[.string a1, .string (⟨#[]⟩ : ByteArray), .int .u64 0, .int .i64 0, .slice none 0 0, .int .i64 0]) ?_ 1 _ rfl; (with_reducible repeat (first | refine kN_ ?_ _ | refine kD_ ?_ | refine kA_ ?_ _)); refine blk_put (cs := #[.string (⟨#[]⟩ : ByteArray), .string (⟨#[]⟩ : ByteArray), .int .u64 0, .int .i64 0, .slice none 0 0, .int .i64 0]) ?_ 0 _ rfl; (with_reducible repeat (first | refine kN_ ?_ _ | refine kD_ ?_ | refine kA_ ?_ _)); refine blk_far ?_ NB136_139.out _; (with_reducible repeat (first | refine kN_ ?_ _ | refine kD_ ?_ | refine kA_ ?_ _)); exact BK136.out) Tryz.underlying25 rfl z85_) rfl ?_
      exact ⟨_, z76_, by (with_reducible repeat (first | apply Kd.R_alloc | apply Kd.R_drewN | apply Kd.R_drew)); exact Kd.R_mono (Kd.R_far (p := ⟨gb136, 5, none⟩) (Kd.R_far (p := ⟨gb136, 4, none⟩) (Kd.R_far (p := ⟨gb136, 3, none⟩) (Kd.R_far (p := ⟨gb136, 2, none⟩) (Kd.R_far (p := ⟨gb136, 1, none⟩) (Kd.R_far (p := ⟨gb136, 0, none⟩) (Kd.R_far (p := ⟨gb139, 5, none⟩) (Kd.R_types (Kd.R_types HO_140004.out BK139.out (by decide)) BK136.out (by decide)) (fun _ hk => hk.1.2) (.int .i64 t140)) (fun _ hk => hk.2) (.string a1)) (fun _ hk => hk.2) (.string a2)) (fun _ hk => hk.2) (.int .u64 a3)) (fun _ hk => hk.2) (.int .i64 t137)) (fun _ hk => hk.2) (.slice Ao67 x140004_1.length co67)) (fun _ hk => hk.2) (.int .i64 t140)) (fun _ hk => trivial), z24_⟩
     ·rw [if_neg c64] at H
      have c64b0 : (t141 == 0) = false := beq_eq_false_iff_ne.mpr c64
      have c64b1 : (t141 != 0) = true := bne_iff_ne.mpr c64
      simp only [Option.some.injEq, Prod.mk.injEq] at H
      obtain ⟨rfl, rfl, rfl, rfl, rfl, rfl, rfl⟩ := H
      have hnb71 := NB139_136.out
      have hnc71 := NB136_139.out
      have hcz72_0 : wr.cell? ⟨gb139, 0, none⟩ = some (.string a1) := (blk_cell BK139.out 0).trans rfl
      have hcz72_1 : wr.cell? ⟨gb139, 1, none⟩ = some (.string a2) := (blk_cell BK139.out 1).trans rfl
      have hcz72_2 : wr.cell? ⟨gb139, 2, none⟩ = some (.int .u64 a3) := (blk_cell BK139.out 2).trans rfl
      have hcz72_3 : wr.cell? ⟨gb139, 3, none⟩ = some (.int .i64 t137) := (blk_cell BK139.out 3).trans rfl
      have hcz72_4 : wr.cell? ⟨gb139, 4, none⟩ = some (u140004) := (blk_cell BK139.out 4).trans rfl
      have hcz72_5 : wr.cell? ⟨gb139, 5, none⟩ = some (.int .i64 0) := (blk_cell BK139.out 5).trans rfl
      have hfz72_0 := blk_frozen BK139.out 0
      have hfz72_1 := blk_frozen BK139.out 1
      have hfz72_2 := blk_frozen BK139.out 2
      have hfz72_3 := blk_frozen BK139.out 3
      have hfz72_4 := blk_frozen BK139.out 4
      have hfz72_5 := blk_frozen BK139.out 5
      obtain ⟨Ao73, co73, eo73⟩ := Kd.R_slice HO_140004.out
      subst eo73
      go_wp2_with (first | ((with_reducible refine gate_callee (f := 32) rfl ?_); refine goesL_ (some 79) rfl rfl Tryz.func32 z85_ rfl #[.agg #[.string a1, .string a2, .int .u64 a3, .int .i64 t137, .slice Ao73 x140004_1.length co73, .int .i64 0]] rfl z31_ ?_; (with_reducible refine (slip_whole.calls k1 a1 a2 a3 t137 _ _ x140004_1 0 t140 t141 _ ?side1 ?side2 ?side3 A63.out).mono ?_); (case side1 => exact Glob.below HG.out z24_); (case side2 => repeat (first | exact (Kd.R_reads' HO_140004.out).2.2 | (with_reducible refine Kd.C_alloc ?_ _) | (with_reducible refine Kd.C_drewN ?_ _) | (with_reducible refine Kd.C_drew ?_))); (case side3 => exact (Kd.R_reads' HO_140004.out).2.1); rintro e w74 ⟨rfl, hb⟩; refine ⟨_, rfl, ?_⟩; have n0_ := a_ (Kd.R_below z44_ hb); have n1_ := a_ (blk_below (g := gb136) (o := .cells #[.string (⟨#[]⟩ : ByteArray), .string (⟨#[]⟩ : ByteArray), .int .u64 0, .int .i64 0, .slice none 0 0, .int .i64 0] 25 (0, 0)) z71_ hb); have n2_ := a_ (blk_below (g := gb139) (o := .cells #[.string a1, .string a2, .int .u64 a3, .int .i64 t137, .slice Ao73 x140004_1.length co73, .int .i64 0] 25 (0, 0)) z72_ hb); have n3_ := a_ (below_step z24_ hb); clear HO_140004; clear BK136; clear BK139; clear HB; have HO_140004 := n0_; have BK136 := n1_; have BK139 := n2_; have HB := n3_; clear n0_ n1_ n2_ n3_; (try clear hb); (try clear hb2); (try clear hk); (try clear hi); have hcz75_0 : w74.cell? ⟨gb139, 0, none⟩ = some (.string a1) := (blk_cell BK139.out 0).trans rfl; have hcz75_1 : w74.cell? ⟨gb139, 1, none⟩ = some (.string a2) := (blk_cell BK139.out 1).trans rfl; have hcz75_2 : w74.cell? ⟨gb139, 2, none⟩ = some (.int .u64 a3) := (blk_cell BK139.out 2).trans rfl; have hcz75_3 : w74.cell? ⟨gb139, 3, none⟩ = some (.int .i64 t137) := (blk_cell BK139.out 3).trans rfl; have hcz75_4 : w74.cell? ⟨gb139, 4, none⟩ = some (.slice Ao73 x140004_1.length co73) := (blk_cell BK139.out 4).trans rfl; have hcz75_5 : w74.cell? ⟨gb139, 5, none⟩ = some (.int .i64 0) := (blk_cell BK139.out 5).trans rfl; have hfz75_0 := blk_frozen BK139.out 0; have hfz75_1 := blk_frozen BK139.out 1; have hfz75_2 := blk_frozen BK139.out 2; have hfz75_3 := blk_frozen BK139.out 3; have hfz75_4 := blk_frozen BK139.out 4; have hfz75_5 := blk_frozen BK139.out 5; have hcz76_0 : w74.cell? ⟨gb136, 0, none⟩ = some (.string (⟨#[]⟩ : ByteArray)) := (blk_cell BK136.out 0).trans rfl; have hcz76_1 : w74.cell? ⟨gb136, 1, none⟩ = some (.string (⟨#[]⟩ : ByteArray)) := (blk_cell BK136.out 1).trans rfl; have hcz76_2 : w74.cell? ⟨gb136, 2, none⟩ = some (.int .u64 0) := (blk_cell BK136.out 2).trans rfl; have hcz76_3 : w74.cell? ⟨gb136, 3, none⟩ = some (.int .i64 0) := (blk_cell BK136.out 3).trans rfl; have hcz76_4 : w74.cell? ⟨gb136, 4, none⟩ = some (.slice none 0 0) := (blk_cell BK136.out 4).trans rfl; have hcz76_5 : w74.cell? ⟨gb136, 5, none⟩ = some (.int .i64 0) := (blk_cell BK136.out 5).trans rfl; have hfz76_0 := blk_frozen BK136.out 0; have hfz76_1 := blk_frozen BK136.out 1; have hfz76_2 := blk_frozen BK136.out 2; have hfz76_3 := blk_frozen BK136.out 3; have hfz76_4 := blk_frozen BK136.out 4; have hfz76_5 := blk_frozen BK136.out 5))
      refine bodyPost_ret (results_ct rfl _ _ gb136 25 #[.string (⟨#[]⟩ : ByteArray), .string (⟨#[]⟩ : ByteArray), .int .u64 0, .int .i64 0, .slice none 0 0, .int .i64 0] (0, 0) _ rfl (by (with_reducible repeat (first | refine kN_ ?_ _ | refine kD_ ?_ | refine kA_ ?_ _)); refine blk_put (cs := #[.string (⟨#[]⟩ : ByteArray), .string (⟨#[]⟩ : ByteArray), .int .u64 0, .int .i64 0, .slice none 0 0, .int .i64 0]) ?_ 5 _ rfl; (with_reducible repeat (first | refine kN_ ?_ _ | refine kD_ ?_ | refine kA_ ?_ _)); refine blk_put (cs := #[.string (⟨#[]⟩ : ByteArray), .string (⟨#[]⟩ : ByteArray), .int .u64 0, .int .i64 0, .slice none 0 0, .int .i64 0]) ?_ 4 _ rfl; (with_reducible repeat (first | refine kN_ ?_ _ | refine kD_ ?_ | refine kA_ ?_ _)); refine blk_put (cs := #[.string (⟨#[]⟩ : ByteArray), .string (⟨#[]⟩ : ByteArray), .int .u64 0, .int .i64 0, .slice none 0 0, .int .i64 0]) ?_ 3 _ rfl; (with_reducible repeat (first | refine kN_ ?_ _ | refine kD_ ?_ | refine kA_ ?_ _)); refine blk_put (cs := #[.string (⟨#[]⟩ : ByteArray), .string (⟨#[]⟩ : ByteArray), .int .u64 0, .int .i64 0, .slice none 0 0, .int .i64 0]) ?_ 2 _ rfl; (with_reducible repeat (first | refine kN_ ?_ _ | refine kD_ ?_ | refine kA_ ?_ _)); refine blk_put (cs := #[.string (⟨#[]⟩ : ByteArray), .string (⟨#[]⟩ : ByteArray), .int .u64 0, .int .i64 0, .slice none 0 0, .int .i64 0]) ?_ 1 _ rfl; (with_reducible repeat (first | refine kN_ ?_ _ | refine kD_ ?_ | refine kA_ ?_ _)); refine blk_put (cs := #[.string (⟨#[]⟩ : ByteArray), .string (⟨#[]⟩ : ByteArray), .int .u64 0, .int .i64 0, .slice none 0 0, .int .i64 0]) ?_ 0 _ rfl; (with_reducible repeat (first | refine kN_ ?_ _ | refine kD_ ?_ | refine kA_ ?_ _)); refine blk_far ?_ NB136_139.out _; (with_reducible repeat (first | refine kN_ ?_ _ | refine kD_ ?_ | refine kA_ ?_ _)); exact BK136.out) Tryz.underlying25 rfl z85_) rfl ?_
      exact ⟨_, z76_, z30_, z24_⟩
 ·rw [if_neg c6] at H
  have c6b0 : (t138 == 0) = false := beq_eq_false_iff_ne.mpr c6
  have c6b1 : (t138 != 0) = true := bne_iff_ne.mpr c6
  simp only [Option.some.injEq, Prod.mk.injEq] at H
  obtain ⟨rfl, rfl, rfl, rfl, rfl, rfl, rfl⟩ := H
  go_enter Tryz.func13, Tryz.ntmps13
  go_wp2_with (first | ((with_reducible refine gate_dst (N := 8) rfl ?_); refine box_event ?hg (N := 8) ?hd (cs := #[.string (⟨#[]⟩ : ByteArray), .string (⟨#[]⟩ : ByteArray), .int .u64 0, .int .i64 0, .slice none 0 0, .int .i64 0]) (t := 25) ?hr ?_; (case hd => rfl); (case hg => rfl); (case hr => first | (go_simp; done) | (go_simp; rfl)); intro gb136 hg w77 hbox hb; have n0_ := a_ (below_step z45_ hb); have n1_ := a_ (hbox); have n2_ := a_ ((z32_ : w.heap.size ≤ gb136)); have n3_ := a_ ((z32_ : w.heap.size ≤ gb136)); clear HB; have HB := n0_; have BK136 := n1_; have GW136 := n2_; have GE136 := n3_; clear n0_ n1_ n2_ n3_; clear hb hbox hg) | ((with_reducible refine gate_callee (f := 40) rfl ?_); refine goesL_ (some 22) rfl rfl Tryz.func40 z85_ rfl #[.slice A0 l0.length c0, .string a1, .string a2, .int .u64 0, .int .u64 a3] rfl z31_ ?_; (with_reducible refine (journal_Sum.calls _ _ l0 a1 a2 0 a3 t137 t138 _ ?side1 ?side2 ?side3 A5.out).mono ?_); (case side1 => exact Glob.below HG.out z41_); (case side2 => repeat (first | exact (Kd.C_below HR0.out HB.out) | (with_reducible refine Kd.C_alloc ?_ _) | (with_reducible refine Kd.C_drewN ?_ _) | (with_reducible refine Kd.C_drew ?_))); (case side3 => exact HC0.out); rintro e w78 ⟨rfl, hb⟩; refine ⟨_, rfl, ?_⟩; have n0_ := a_ (blk_below (g := gb136) (o := .cells #[.string (⟨#[]⟩ : ByteArray), .string (⟨#[]⟩ : ByteArray), .int .u64 0, .int .i64 0, .slice none 0 0, .int .i64 0] 25 (0, 0)) z71_ hb); have n1_ := a_ (below_step z41_ hb); clear BK136; clear HB; have BK136 := n0_; have HB := n1_; clear n0_ n1_; (try clear hb); (try clear hb2); (try clear hk); (try clear hi); have hcz79_0 : w78.cell? ⟨gb136, 0, none⟩ = some (.string (⟨#[]⟩ : ByteArray)) := (blk_cell BK136.out 0).trans rfl; have hcz79_1 : w78.cell? ⟨gb136, 1, none⟩ = some (.string (⟨#[]⟩ : ByteArray)) := (blk_cell BK136.out 1).trans rfl; have hcz79_2 : w78.cell? ⟨gb136, 2, none⟩ = some (.int .u64 0) := (blk_cell BK136.out 2).trans rfl; have hcz79_3 : w78.cell? ⟨gb136, 3, none⟩ = some (.int .i64 0) := (blk_cell BK136.out 3).trans rfl; have hcz79_4 : w78.cell? ⟨gb136, 4, none⟩ = some (.slice none 0 0) := (blk_cell BK136.out 4).trans rfl; have hcz79_5 : w78.cell? ⟨gb136, 5, none⟩ = some (.int .i64 0) := (blk_cell BK136.out 5).trans rfl; have hfz79_0 := blk_frozen BK136.out 0; have hfz79_1 := blk_frozen BK136.out 1; have hfz79_2 := blk_frozen BK136.out 2; have hfz79_3 := blk_frozen BK136.out 3; have hfz79_4 := blk_frozen BK136.out 4; have hfz79_5 := blk_frozen BK136.out 5))
  refine bodyPost_ret (results_ct rfl _ _ gb136 25 #[.string (⟨#[]⟩ : ByteArray), .string (⟨#[]⟩ : ByteArray), .int .u64 0, .int .i64 0, .slice none 0 0, .int .i64 0] (0, 0) _ rfl (by (with_reducible repeat (first | refine kN_ ?_ _ | refine kD_ ?_ | refine kA_ ?_ _)); refine blk_put (cs := #[.string (⟨#[]⟩ : ByteArray), .string (⟨#[]⟩ : ByteArray), .int .u64 0, .int .i64 0, .slice none 0 0, .int .i64 0]) ?_ 5 _ rfl; (with_reducible repeat (first | refine kN_ ?_ _ | refine kD_ ?_ | refine kA_ ?_ _)); refine blk_put (cs := #[.string (⟨#[]⟩ : ByteArray), .string (⟨#[]⟩ : ByteArray), .int .u64 0, .int .i64 0, .slice none 0 0, .int .i64 0]) ?_ 4 _ rfl; (with_reducible repeat (first | refine kN_ ?_ _ | refine kD_ ?_ | refine kA_ ?_ _)); refine blk_put (cs := #[.string (⟨#[]⟩ : ByteArray), .string (⟨#[]⟩ : ByteArray), .int .u64 0, .int .i64 0, .slice none 0 0, .int .i64 0]) ?_ 3 _ rfl; (with_reducible repeat (first | refine kN_ ?_ _ | refine kD_ ?_ | refine kA_ ?_ _)); refine blk_put (cs := #[.string (⟨#[]⟩ : ByteArray), .string (⟨#[]⟩ : ByteArray), .int .u64 0, .int .i64 0, .slice none 0 0, .int .i64 0]) ?_ 2 _ rfl; (with_reducible repeat (first | refine kN_ ?_ _ | refine kD_ ?_ | refine kA_ ?_ _)); refine blk_put (cs := #[.string (⟨#[]⟩ : ByteArray), .string (⟨#[]⟩ : ByteArray), .int .u64 0, .int .i64 0, .slice none 0 0, .int .i64 0]) ?_ 1 _ rfl; (with_reducible repeat (first | refine kN_ ?_ _ | refine kD_ ?_ | refine kA_ ?_ _)); refine blk_put (cs := #[.string (⟨#[]⟩ : ByteArray), .string (⟨#[]⟩ : ByteArray), .int .u64 0, .int .i64 0, .slice none 0 0, .int .i64 0]) ?_ 0 _ rfl; (with_reducible repeat (first | refine kN_ ?_ _ | refine kD_ ?_ | refine kA_ ?_ _)); exact BK136.out) Tryz.underlying25 rfl z85_) rfl ?_
  exact ⟨_, z76_, z30_, z41_⟩

end Go.Proofs.YtnngbnhbmgdkoaaGreatDoor.P
