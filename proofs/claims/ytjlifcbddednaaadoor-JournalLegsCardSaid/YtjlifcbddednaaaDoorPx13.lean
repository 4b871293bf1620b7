-- Laid by wip/tools/cprint.py of this claim's own repo (over the kit's print).
import Derived.Test.YtjlifcbddednaaaDoorShort
import Derived.Test.YtjlifcbddednaaaDoorPx0
import Derived.Test.YtjlifcbddednaaaDoorPx3
import Derived.Test.YtjlifcbddednaaaDoorAwake12
import Derived.Test.YtjlifcbddednaaaDoorJCheck
namespace Go.Proofs.YtjlifcbddednaaaDoor.P
open Go.RowKit Go.Proofs.YtjlifcbddednaaaDoor.E Go.Proofs.YtjlifcbddednaaaDoorW.PrintWords Go.Proofs.YtjlifcbddednaaaDoorW.PrintLast
set_option linter.unusedVariables false
set_option linter.unusedSimpArgs false

/-! ### cambistlaw12_JournalLegs: function 6 -/
def cambistlaw12_JournalLegs.j0 : Nat → Int → Int → Bool → Bool → Int → Int → ByteArray → List (S42) → Option (Bool)
 | 0, _, _, _, _, _, _, _, _ => none
 | k + 1, x1, x2, x7, x19, x313000, x313001, x313002, x313003 => if x19 = true then (some x7) else (if x1 < 0 then (if (x313003.length : Int) = 0 then (none) else ((some (([] : List (S42)) : List (S42))).bind fun y317 => (if 0 ≤ (Int.tmod (wrap64 (-(wrap64 (x1 + 1)))) (x313003.length : Int)) then (if (Int.tmod (wrap64 (-(wrap64 (x1 + 1)))) (x313003.length : Int)) ≤ (x313003.length : Int) then ((some (x313003.drop ((Int.tmod (wrap64 (-(wrap64 (x1 + 1)))) (x313003.length : Int)) : Int).toNat : List (S42))).bind fun y320 => (if y317.length + y320.length < 3518437208883 then ((some (y317 ++ y320 : List (S42))).bind fun y324 => ((some (x313003.take ((Int.tmod (wrap64 (-(wrap64 (x1 + 1)))) (x313003.length : Int)) : Int).toNat : List (S42))).bind fun y327 => (if y324.length + y327.length < 3518437208883 then ((some (([] : List (S42)) : List (S42))).bind fun y335 => ((some (x313003.take ((Int.tmod (wrap64 (-(wrap64 (x1 + 1)))) (x313003.length : Int)) : Int).toNat : List (S42))).bind fun y338 => (if y335.length + y338.length < 3518437208883 then ((some (y335 ++ y338 : List (S42))).bind fun y342 => (if 0 ≤ (wrap64 ((Int.tmod (wrap64 (-(wrap64 (x1 + 1)))) (x313003.length : Int)) + 1)) then (if (wrap64 ((Int.tmod (wrap64 (-(wrap64 (x1 + 1)))) (x313003.length : Int)) + 1)) ≤ (x313003.length : Int) then ((some (x313003.drop ((wrap64 ((Int.tmod (wrap64 (-(wrap64 (x1 + 1)))) (x313003.length : Int)) + 1)) : Int).toNat : List (S42))).bind fun y345 => (if y342.length + y345.length < 3518437208883 then ((some (([] : List (S42)) : List (S42))).bind fun y353 => (if y353.length + x313003.length < 3518437208883 then ((some (y353 ++ x313003 : List (S42))).bind fun y356 => (if (Int.tmod (wrap64 (-(wrap64 (x1 + 1)))) (x313003.length : Int)) < (y356.length : Int) then (if x7 = true then ((journal_Check.f x313000 x313001 x313002 (y324 ++ y327)).bind fun t360 => (if t360 = 0 then ((journal_Check.f x313000 x313001 x313002 (y342 ++ y345)).bind fun t361 => (if t361 = 120 then ((journal_Check.f x313000 x313001 x313002 (y356.set ((Int.tmod (wrap64 (-(wrap64 (x1 + 1)))) (x313003.length : Int)) : Int).toNat (⟨(rd_T42 y356 (Int.tmod (wrap64 (-(wrap64 (x1 + 1)))) (x313003.length : Int))).f0, (rd_T42 y356 (Int.tmod (wrap64 (-(wrap64 (x1 + 1)))) (x313003.length : Int))).f1, x2⟩ : S42))).bind fun t362 => (if (Int.tmod (wrap64 (-(wrap64 (x1 + 1)))) (x313003.length : Int)) < (x313003.length : Int) then (some ((t362 == 0) == (x2 == ((rd_T42 x313003 (Int.tmod (wrap64 (-(wrap64 (x1 + 1)))) (x313003.length : Int))).f2)))) else (none))) else (none))) else (none))) else (none)) else (none))) else (none))) else (none))) else (none)) else (none))) else (none)))) else (none)))) else (none))) else (none)) else (none)))) else (if (x313003.length : Int) = 0 then (none) else ((some (([] : List (S42)) : List (S42))).bind fun y365 => (if 0 ≤ (Int.tmod x1 (x313003.length : Int)) then (if (Int.tmod x1 (x313003.length : Int)) ≤ (x313003.length : Int) then ((some (x313003.drop ((Int.tmod x1 (x313003.length : Int)) : Int).toNat : List (S42))).bind fun y368 => (if y365.length + y368.length < 3518437208883 then ((some (y365 ++ y368 : List (S42))).bind fun y372 => ((some (x313003.take ((Int.tmod x1 (x313003.length : Int)) : Int).toNat : List (S42))).bind fun y375 => (if y372.length + y375.length < 3518437208883 then ((some (([] : List (S42)) : List (S42))).bind fun y383 => ((some (x313003.take ((Int.tmod x1 (x313003.length : Int)) : Int).toNat : List (S42))).bind fun y386 => (if y383.length + y386.length < 3518437208883 then ((some (y383 ++ y386 : List (S42))).bind fun y390 => (if 0 ≤ (wrap64 ((Int.tmod x1 (x313003.length : Int)) + 1)) then (if (wrap64 ((Int.tmod x1 (x313003.length : Int)) + 1)) ≤ (x313003.length : Int) then ((some (x313003.drop ((wrap64 ((Int.tmod x1 (x313003.length : Int)) + 1)) : Int).toNat : List (S42))).bind fun y393 => (if y390.length + y393.length < 3518437208883 then ((some (([] : List (S42)) : List (S42))).bind fun y401 => (if y401.length + x313003.length < 3518437208883 then ((some (y401 ++ x313003 : List (S42))).bind fun y404 => (if (Int.tmod x1 (x313003.length : Int)) < (y404.length : Int) then (if x7 = true then ((journal_Check.f x313000 x313001 x313002 (y372 ++ y375)).bind fun t408 => (if t408 = 0 then ((journal_Check.f x313000 x313001 x313002 (y390 ++ y393)).bind fun t409 => (if t409 = 120 then ((journal_Check.f x313000 x313001 x313002 (y404.set ((Int.tmod x1 (x313003.length : Int)) : Int).toNat (⟨(rd_T42 y404 (Int.tmod x1 (x313003.length : Int))).f0, (rd_T42 y404 (Int.tmod x1 (x313003.length : Int))).f1, x2⟩ : S42))).bind fun t410 => (if (Int.tmod x1 (x313003.length : Int)) < (x313003.length : Int) then (some ((t410 == 0) == (x2 == ((rd_T42 x313003 (Int.tmod x1 (x313003.length : Int))).f2)))) else (none))) else (none))) else (none))) else (none)) else (none))) else (none))) else (none))) else (none)) else (none))) else (none)))) else (none)))) else (none))) else (none)) else (none)))))
def cambistlaw12_JournalLegs.f (k : Nat) (a0_0 : Int) (a0_1 : Int) (a0_2 : ByteArray) (l0_3 : List (S42)) (a1 : Int) (a2 : Int) : Option (Bool) := (cambistlaw12_awake.f).bind fun t313 => ((cambistlaw12_few.f k a0_0 a0_1 a0_2 l0_3).bind fun t314 => (if t314 = true then ((journal_Check.f a0_0 a0_1 a0_2 l0_3).bind fun t315 => (cambistlaw12_JournalLegs.j0 k a1 a2 t313 (t315 != 0) a0_0 a0_1 a0_2 l0_3)) else (cambistlaw12_JournalLegs.j0 k a1 a2 t313 true a0_0 a0_1 a0_2 l0_3)))
theorem cambistlaw12_JournalLegs.mono_l : ∀ k, (∀ y0 y1 y2 y3 y4 y5 y6 y7, LeO (cambistlaw12_JournalLegs.j0 k y0 y1 y2 y3 y4 y5 y6 y7) (cambistlaw12_JournalLegs.j0 (k + 1) y0 y1 y2 y3 y4 y5 y6 y7))
 | 0 => fun _ _ _ _ _ _ _ _ r h => by simp [cambistlaw12_JournalLegs.j0] at h
 | k + 1 => by
  have ih0 := cambistlaw12_JournalLegs.mono_l k
  ·intro y0 y1 y2 y3 y4 y5 y6 y7
   unfold cambistlaw12_JournalLegs.j0
   repeat' first
   | (with_reducible exact ih0 _ _ _ _ _ _ _ _)
   | (with_reducible exact cambistlaw12_few.mono _ _ _ _ _)
   | (with_reducible exact LeO.refl _)
   | (with_reducible exact LeO.none _)
   | (with_reducible refine LeO.ite ?_ ?_)
   | (with_reducible refine LeO.bind ?_ (fun _ => ?_))
   | exact ih0 _ _ _ _ _ _ _ _
   | exact cambistlaw12_few.mono _ _ _ _ _
   | exact LeO.none _
   | refine LeO.ite ?_ ?_
   | refine LeO.bind ?_ (fun _ => ?_)
theorem cambistlaw12_JournalLegs.mono : ∀ a0 a1 a2 a3 a4 a5 k, LeO (cambistlaw12_JournalLegs.f k a0 a1 a2 a3 a4 a5) (cambistlaw12_JournalLegs.f (k + 1) a0 a1 a2 a3 a4 a5) := by
 intro a0 a1 a2 a3 a4 a5 k
 have ih0 := cambistlaw12_JournalLegs.mono_l k
 unfold cambistlaw12_JournalLegs.f
 repeat' first
   | (with_reducible exact ih0 _ _ _ _ _ _ _ _)
   | (with_reducible exact cambistlaw12_few.mono _ _ _ _ _)
   | (with_reducible exact LeO.refl _)
   | (with_reducible exact LeO.none _)
   | (with_reducible refine LeO.ite ?_ ?_)
   | (with_reducible refine LeO.bind ?_ (fun _ => ?_))
   | exact ih0 _ _ _ _ _ _ _ _
   | exact cambistlaw12_few.mono _ _ _ _ _
   | exact LeO.none _
   | refine LeO.ite ?_ ?_
   | refine LeO.bind ?_ (fun _ => ?_)
def cambistlaw12_JournalLegs.T8 : Bool × List (List Nat × List Nat) := (true, [([], []), ([], []), ([1], [1]), ([], []), ([2, 3], [2, 3]), ([0, 4], [0, 4]), ([], []), ([6], [6]), ([], []), ([7, 8], [7, 8]), ([5, 9, 5], [5, 9]), ([0, 1, 2, 3, 4, 5, 6, 7, 8, 9, 10], []), ([11, 10, 10, 0, 1, 2, 3, 4, 5, 6, 7, 8, 9, 10], [10, 11])])
def cambistlaw12_JournalLegs.B8 : List Nat := [0, 0, 2, 0, 14, 31, 0, 64, 0, 448, 1023, 2047, 4095]
theorem cambistlaw12_JournalLegs.tab8 : rtab .any (opsOf Tryd.f6 8) = cambistlaw12_JournalLegs.T8 := by kernel_rfl
theorem cambistlaw12_JournalLegs.bits8 : waitsOk cambistlaw12_JournalLegs.T8.2 cambistlaw12_JournalLegs.B8 = true := by kernel_rfl
def cambistlaw12_JournalLegs.T10 : Bool × List (List Nat × List Nat) := (true, [([], []), ([], []), ([1], [1]), ([], []), ([2, 3], [2, 3]), ([0, 4], [0, 4]), ([], []), ([6], [6]), ([], []), ([8], [8]), ([7, 9], [7, 9]), ([5, 10, 5], [5, 10]), ([0, 1, 2, 3, 4, 5, 6, 7, 8, 9, 10, 11], []), ([12, 11, 11, 0, 1, 2, 3, 4, 5, 6, 7, 8, 9, 10, 11], [11, 12])])
def cambistlaw12_JournalLegs.B10 : List Nat := [0, 0, 2, 0, 14, 31, 0, 64, 0, 256, 960, 2047, 4095, 8191]
theorem cambistlaw12_JournalLegs.tab10 : rtab .any (opsOf Tryd.f6 10) = cambistlaw12_JournalLegs.T10 := by kernel_rfl
theorem cambistlaw12_JournalLegs.bits10 : waitsOk cambistlaw12_JournalLegs.T10.2 cambistlaw12_JournalLegs.B10 = true := by kernel_rfl
def cambistlaw12_JournalLegs.T14 : Bool × List (List Nat × List Nat) := (true, [([], []), ([0], [0]), ([1], [1]), ([2, 1, 1], [1, 2]), ([3, 1], [1, 3]), ([1, 4], [1, 4]), ([5, 3], [5]), ([6], [6]), ([7, 6, 6], [6, 7]), ([8, 6], [6, 8]), ([6, 9], [6, 9]), ([10, 8], [10]), ([11], [11]), ([12, 11, 11], [11, 12]), ([13, 11], [11, 13]), ([11], [11]), ([11], [11]), ([16, 11], [11, 16]), ([11], [11]), ([17, 18, 11], [11, 17, 18]), ([19, 11], [11, 19]), ([20, 11], [11, 20]), ([15, 21, 11], [11, 15, 21]), ([14, 22, 11], [11, 14, 22]), ([11, 23], [11, 23]), ([24, 13, 0, 1, 2, 3, 4, 5, 6, 7, 8, 9, 10, 11, 12, 13, 14, 15, 16, 17, 18, 19, 20, 21, 22, 23, 24], [24])])
def cambistlaw12_JournalLegs.B14 : List Nat := [0, 1, 3, 7, 15, 31, 63, 127, 255, 511, 1023, 2047, 4095, 8191, 16383, 4095, 4095, 69631, 4095, 462847, 987135, 2035711, 4165631, 8388607, 16777215, 33554431]
theorem cambistlaw12_JournalLegs.tab14 : rtab .any (opsOf Tryd.f6 14) = cambistlaw12_JournalLegs.T14 := by kernel_rfl
theorem cambistlaw12_JournalLegs.bits14 : waitsOk cambistlaw12_JournalLegs.T14.2 cambistlaw12_JournalLegs.B14 = true := by kernel_rfl
set_option maxHeartbeats 8000000 in
set_option maxRecDepth 100000 in
theorem cambistlaw12_JournalLegs.calls (k : Nat) (a0_0 : Int) (a0_1 : Int) (a0_2 : ByteArray) (A0_3 : Option Addr) (c0_3 : Nat) (l0_3 : List (S42)) (a1 : Int) (a2 : Int) (r : Bool) (w : World) (hG : Glob w) (hr0_3 : Kd.C k42 w A0_3 l0_3.length l0_3) (hc0_3 : l0_3.length ≤ c0_3) (h : cambistlaw12_JournalLegs.f k a0_0 a0_1 a0_2 l0_3 a1 a2 = some r) :
  Calls Tryd.prog 6 #[.agg #[.int .u64 a0_0, .int .u64 a0_1, .string a0_2, .slice A0_3 l0_3.length c0_3], .int .i64 a1, .int .i64 a2] w fun e w' => e = .returned (.bool r) ∧ Below w.heap.size w w' := by
 have hu26 := Tryd.underlying26
 have HG := a_ hG
 clear hG
 have HR0_3 := a_ hr0_3
 have HC0_3 := a_ hc0_3
 clear hr0_3 hc0_3
 have HB := a_ (Below.refl w.heap.size w)
 have H : ((cambistlaw12_awake.f).bind fun t313 => ((cambistlaw12_few.f k a0_0 a0_1 a0_2 l0_3).bind fun t314 => (if t314 = true then ((journal_Check.f a0_0 a0_1 a0_2 l0_3).bind fun t315 => (cambistlaw12_JournalLegs.j0 k a1 a2 t313 (t315 != 0) a0_0 a0_1 a0_2 l0_3)) else (cambistlaw12_JournalLegs.j0 k a1 a2 t313 true a0_0 a0_1 a0_2 l0_3)))) = some r := h
 clear h
 replace H := Option.bind_eq_some_iff.mp H
 obtain ⟨t313, A40, H⟩ := H
 (try dsimp only at H)
 have A4 := a_ A40
 clear A40
 have HC5 := a_ H
 clear H
 go_enter Tryd.func6, Tryd.ntmps6
 go_upto_region 2 with (first | ((with_reducible refine gate_dst (N := 3) rfl ?_); refine box_event ?hg (N := 3) ?hd (cs := #[.int .u64 a0_0, .int .u64 a0_1, .string a0_2, .slice A0_3 l0_3.length c0_3]) (t := 26) ?hr ?_; (case hd => rfl); (case hg => rfl); (case hr => first | (go_simp; done) | (go_simp; rfl)); intro gb312 hg w6 hbox hb; have n0_ := a_ (below_step (by repeat (first | (with_reducible first | exact HB.out | apply bA_ | apply bN_ | apply b1_) | exact HB.out)) hb); have n1_ := a_ (hbox); have n2_ := a_ ((by rw [hg]; exact (below_size (by repeat (first | (with_reducible first | exact HB.out | apply bA_ | apply bN_ | apply b1_) | exact HB.out))) : w.heap.size ≤ gb312)); have n3_ := a_ ((by rw [hg]; exact (below_size (by repeat (first | (with_reducible first | exact HB.out | apply bA_ | apply bN_ | apply b1_) | exact HB.out))) : w.heap.size ≤ gb312)); clear HB; have HB := n0_; have BK312 := n1_; have GW312 := n2_; have GE312 := n3_; clear n0_ n1_ n2_ n3_; clear hb hbox hg) | ((with_reducible refine gate_callee (f := 8) rfl ?_); refine goesL_ (some 11) rfl rfl Tryd.func8 (by kernel_rfl) rfl #[] rfl (by (try simp only [List.map_toArray, List.map_cons, List.map_nil]); first | done | rfl | (simp only [List.length_drop, List.length_take]; rfl)) ?_; (with_reducible refine (cambistlaw12_awake.calls  t313 _ ?side1 A4.out).mono ?_); (case side1 => exact Glob.below HG.out (by repeat (first | (with_reducible first | exact HB.out | apply bA_ | apply bN_ | apply b1_ | refine bS_ ?_ GE312.out) | exact HB.out))); rintro e w7 ⟨rfl, hb⟩; refine ⟨_, rfl, ?_⟩; have n0_ := a_ (blk_below (g := gb312) (o := .cells #[.int .u64 a0_0, .int .u64 a0_1, .string a0_2, .slice A0_3 l0_3.length c0_3] 26 (0, 0)) (by (with_reducible repeat (first | refine kN_ ?_ _ | refine kD_ ?_ | refine kA_ ?_ _)); exact BK312.out) hb); have n1_ := a_ (below_step (by repeat (first | (with_reducible first | exact HB.out | apply bA_ | apply bN_ | apply b1_ | refine bS_ ?_ GE312.out) | exact HB.out)) hb); clear BK312; clear HB; have BK312 := n0_; have HB := n1_; clear n0_ n1_; (try clear hb); (try clear hb2); (try clear hk); (try clear hi)))
 (try simp only [Act.put, sT_, s0_, sS_])
 go_cut [19] (fun v19 wc => ∃ (kq : Nat) (x19_4 : Bool), v19 = .bool x19_4 ∧ Aside0 (cambistlaw12_JournalLegs.j0 kq a1 a2 t313 x19_4 a0_0 a0_1 a0_2 l0_3 = some r) ∧ Aside0 (kq ≤ k) ∧ Aside0 (wc.heap[gb312]? = some (.cells #[.int .u64 a0_0, .int .u64 a0_1, .string a0_2, (.slice A0_3 l0_3.length c0_3)] 26 (0, 0))) ∧ Aside0 (Below w.heap.size w wc))
 case first =>
  have H := HC5.out
  clear HC5
  replace H := Option.bind_eq_some_iff.mp H
  obtain ⟨t314, A80, H⟩ := H
  (try dsimp only at H)
  have A8 := a_ A80
  clear A80
  by_cases c9 : t314 = true
  ·subst c9
   have H1 : ((journal_Check.f a0_0 a0_1 a0_2 l0_3).bind fun t315 => (cambistlaw12_JournalLegs.j0 k a1 a2 t313 (t315 != 0) a0_0 a0_1 a0_2 l0_3)) = some r := by rw [if_pos rfl] at H; exact H
   clear H
   have H := H1
   clear H1
   replace H := Option.bind_eq_some_iff.mp H
   obtain ⟨t315, A100, H⟩ := H
   (try dsimp only at H)
   have A10 := a_ A100
   clear A100
   have H' := a_ H
   clear H
   have hcz11_0 : w7.cell? ⟨gb312, 0, none⟩ = some (.int .u64 a0_0) := (blk_cell BK312.out 0).trans rfl
   have hcz11_1 : w7.cell? ⟨gb312, 1, none⟩ = some (.int .u64 a0_1) := (blk_cell BK312.out 1).trans rfl
   have hcz11_2 : w7.cell? ⟨gb312, 2, none⟩ = some (.string a0_2) := (blk_cell BK312.out 2).trans rfl
   have hcz11_3 : w7.cell? ⟨gb312, 3, none⟩ = some (.slice A0_3 l0_3.length c0_3) := (blk_cell BK312.out 3).trans rfl
   have hfz11_0 := blk_frozen BK312.out 0
   have hfz11_1 := blk_frozen BK312.out 1
   have hfz11_2 := blk_frozen BK312.out 2
   have hfz11_3 := blk_frozen BK312.out 3
   go_wp2_with (first | ((with_reducible refine gate_callee (f := 9) rfl ?_); refine goesL_ (some 13) rfl rfl Tryd.func9 (by kernel_rfl) rfl #[.agg #[.int .u64 a0_0, .int .u64 a0_1, .string a0_2, .slice A0_3 l0_3.length c0_3]] rfl (by (try simp only [List.map_toArray, List.map_cons, List.map_nil]); first | done | rfl | (simp only [List.length_drop, List.length_take]; rfl)) ?_; (with_reducible refine (cambistlaw12_few.calls k a0_0 a0_1 a0_2 _ _ l0_3 true _ ?side1 ?side2 ?side3 A8.out).mono ?_); (case side1 => exact Glob.below HG.out (by repeat (first | (with_reducible first | exact HB.out | apply bA_ | apply bN_ | apply b1_ | refine bS_ ?_ GE312.out) | exact HB.out))); (case side2 => repeat (first | exact (Kd.C_below HR0_3.out HB.out) | (with_reducible refine Kd.C_alloc ?_ _) | (with_reducible refine Kd.C_drewN ?_ _) | (with_reducible refine Kd.C_drew ?_))); (case side3 => exact HC0_3.out); rintro e w12 ⟨rfl, hb⟩; refine ⟨_, rfl, ?_⟩; have n0_ := a_ (blk_below (g := gb312) (o := .cells #[.int .u64 a0_0, .int .u64 a0_1, .string a0_2, .slice A0_3 l0_3.length c0_3] 26 (0, 0)) (by (with_reducible repeat (first | refine kN_ ?_ _ | refine kD_ ?_ | refine kA_ ?_ _)); exact BK312.out) hb); have n1_ := a_ (below_step (by repeat (first | (with_reducible first | exact HB.out | apply bA_ | apply bN_ | apply b1_ | refine bS_ ?_ GE312.out) | exact HB.out)) hb); clear BK312; clear HB; have BK312 := n0_; have HB := n1_; clear n0_ n1_; (try clear hb); (try clear hb2); (try clear hk); (try clear hi); have hcz13_0 : w12.cell? ⟨gb312, 0, none⟩ = some (.int .u64 a0_0) := (blk_cell BK312.out 0).trans rfl; have hcz13_1 : w12.cell? ⟨gb312, 1, none⟩ = some (.int .u64 a0_1) := (blk_cell BK312.out 1).trans rfl; have hcz13_2 : w12.cell? ⟨gb312, 2, none⟩ = some (.string a0_2) := (blk_cell BK312.out 2).trans rfl; have hcz13_3 : w12.cell? ⟨gb312, 3, none⟩ = some (.slice A0_3 l0_3.length c0_3) := (blk_cell BK312.out 3).trans rfl; have hfz13_0 := blk_frozen BK312.out 0; have hfz13_1 := blk_frozen BK312.out 1; have hfz13_2 := blk_frozen BK312.out 2; have hfz13_3 := blk_frozen BK312.out 3) | (go_at_call 13; (with_reducible refine (journal_Check.calls a0_0 a0_1 a0_2 _ _ l0_3 t315 _ ?side1 ?side2 ?side3 A10.out).mono ?_); (case side1 => exact Glob.below HG.out (by repeat (first | (with_reducible first | exact HB.out | apply bA_ | apply bN_ | apply b1_ | refine bS_ ?_ GE312.out) | exact HB.out))); (case side2 => repeat (first | exact (Kd.C_below HR0_3.out HB.out) | (with_reducible refine Kd.C_alloc ?_ _) | (with_reducible refine Kd.C_drewN ?_ _) | (with_reducible refine Kd.C_drew ?_))); (case side3 => exact HC0_3.out); rintro e w14 ⟨rfl, hb⟩; have n0_ := a_ (blk_below (g := gb312) (o := .cells #[.int .u64 a0_0, .int .u64 a0_1, .string a0_2, .slice A0_3 l0_3.length c0_3] 26 (0, 0)) (by (with_reducible repeat (first | refine kN_ ?_ _ | refine kD_ ?_ | refine kA_ ?_ _)); exact BK312.out) hb); have n1_ := a_ (below_step (by repeat (first | (with_reducible first | exact HB.out | apply bA_ | apply bN_ | apply b1_ | refine bS_ ?_ GE312.out) | exact HB.out)) hb); clear BK312; clear HB; have BK312 := n0_; have HB := n1_; clear n0_ n1_; (try clear hb); (try clear hb2); (try clear hk); (try clear hi)))
   go_meet
   case rel => exact ⟨_, ((t315 != 0)), (by first | rfl | (simp; done) | (simp [*]; done)), H', ⟨by first | omega | exact Nat.le_refl _⟩, ⟨by (with_reducible repeat (first | refine kN_ ?_ _ | refine kD_ ?_ | refine kA_ ?_ _)); exact BK312.out⟩, ⟨by repeat (first | (with_reducible first | exact HB.out | apply bA_ | apply bN_ | apply b1_ | refine bS_ ?_ GE312.out) | exact HB.out)⟩⟩
  ·replace c9 := Bool.eq_false_iff.mpr c9
   subst c9
   have H1 : (cambistlaw12_JournalLegs.j0 k a1 a2 t313 true a0_0 a0_1 a0_2 l0_3) = some r := by rw [if_neg (show ¬ (false = true) by decide)] at H; exact H
   clear H
   have H := H1
   clear H1
   have H' := a_ H
   clear H
   have hcz15_0 : w7.cell? ⟨gb312, 0, none⟩ = some (.int .u64 a0_0) := (blk_cell BK312.out 0).trans rfl
   have hcz15_1 : w7.cell? ⟨gb312, 1, none⟩ = some (.int .u64 a0_1) := (blk_cell BK312.out 1).trans rfl
   have hcz15_2 : w7.cell? ⟨gb312, 2, none⟩ = some (.string a0_2) := (blk_cell BK312.out 2).trans rfl
   have hcz15_3 : w7.cell? ⟨gb312, 3, none⟩ = some (.slice A0_3 l0_3.length c0_3) := (blk_cell BK312.out 3).trans rfl
   have hfz15_0 := blk_frozen BK312.out 0
   have hfz15_1 := blk_frozen BK312.out 1
   have hfz15_2 := blk_frozen BK312.out 2
   have hfz15_3 := blk_frozen BK312.out 3
   go_wp2_with (first | ((with_reducible refine gate_callee (f := 9) rfl ?_); refine goesL_ (some 13) rfl rfl Tryd.func9 (by kernel_rfl) rfl #[.agg #[.int .u64 a0_0, .int .u64 a0_1, .string a0_2, .slice A0_3 l0_3.length c0_3]] rfl (by (try simp only [List.map_toArray, List.map_cons, List.map_nil]); first | done | rfl | (simp only [List.length_drop, List.length_take]; rfl)) ?_; (with_reducible refine (cambistlaw12_few.calls k a0_0 a0_1 a0_2 _ _ l0_3 false _ ?side1 ?side2 ?side3 A8.out).mono ?_); (case side1 => exact Glob.below HG.out (by repeat (first | (with_reducible first | exact HB.out | apply bA_ | apply bN_ | apply b1_ | refine bS_ ?_ GE312.out) | exact HB.out))); (case side2 => repeat (first | exact (Kd.C_below HR0_3.out HB.out) | (with_reducible refine Kd.C_alloc ?_ _) | (with_reducible refine Kd.C_drewN ?_ _) | (with_reducible refine Kd.C_drew ?_))); (case side3 => exact HC0_3.out); rintro e w16 ⟨rfl, hb⟩; refine ⟨_, rfl, ?_⟩; have n0_ := a_ (blk_below (g := gb312) (o := .cells #[.int .u64 a0_0, .int .u64 a0_1, .string a0_2, .slice A0_3 l0_3.length c0_3] 26 (0, 0)) (by (with_reducible repeat (first | refine kN_ ?_ _ | refine kD_ ?_ | refine kA_ ?_ _)); exact BK312.out) hb); have n1_ := a_ (below_step (by repeat (first | (with_reducible first | exact HB.out | apply bA_ | apply bN_ | apply b1_ | refine bS_ ?_ GE312.out) | exact HB.out)) hb); clear BK312; clear HB; have BK312 := n0_; have HB := n1_; clear n0_ n1_; (try clear hb); (try clear hb2); (try clear hk); (try clear hi)))
   go_meet
   case rel => exact ⟨_, (true), (by first | rfl | (simp; done) | (simp [*]; done)), H', ⟨by first | omega | exact Nat.le_refl _⟩, ⟨by (with_reducible repeat (first | refine kN_ ?_ _ | refine kD_ ?_ | refine kA_ ?_ _)); exact BK312.out⟩, ⟨by repeat (first | (with_reducible first | exact HB.out | apply bA_ | apply bN_ | apply b1_ | refine bS_ ?_ GE312.out) | exact HB.out)⟩⟩
 case rest =>
  clear HC5
  try clear p2
  try clear c6
  try clear c8
  try clear c9
  try clear hcz11_0
  try clear hcz11_1
  try clear hcz11_2
  try clear hcz11_3
  try clear hcz13_0
  try clear hcz13_1
  try clear hcz13_2
  try clear hcz13_3
  try clear hcz15_0
  try clear hcz15_1
  try clear hcz15_2
  try clear hcz15_3
  try clear hfz11_0
  try clear hfz11_1
  try clear hfz11_2
  try clear hfz11_3
  try clear hfz13_0
  try clear hfz13_1
  try clear hfz13_2
  try clear hfz13_3
  try clear hfz15_0
  try clear hfz15_1
  try clear hfz15_2
  try clear hfz15_3
  obtain ⟨kq, x19_4, rfl, HA, HJ4, BK312, HB⟩ := hcut
  cases kq with
  | zero => exact absurd HA.out (by simp [cambistlaw12_JournalLegs.j0])
  | succ kj4 =>
   have H := HA.out
   clear HA
   simp only [cambistlaw12_JournalLegs.j0] at H
   by_cases c17 : x19_4 = true
   ·subst c17
    have H1 : (some t313) = some r := by rw [if_pos rfl] at H; exact H
    clear H
    have H := H1
    clear H1
    obtain rfl := Option.some.inj H
    go_wp2
    go_ret
    exact ⟨by first | rfl | (simp [errW_none, errW_some] <;> rfl) | (simp [*, errW_none, errW_some] <;> rfl), by repeat (first | (with_reducible first | exact HB.out | apply bA_ | apply bN_ | apply b1_ | refine bS_ ?_ GE312.out) | exact HB.out)⟩
   ·replace c17 := Bool.eq_false_iff.mpr c17
    subst c17
    have H1 : (if a1 < 0 then (if (l0_3.length : Int) = 0 then (none) else ((some (([] : List (S42)) : List (S42))).bind fun y317 => (if 0 ≤ (Int.tmod (wrap64 (-(wrap64 (a1 + 1)))) (l0_3.length : Int)) then (if (Int.tmod (wrap64 (-(wrap64 (a1 + 1)))) (l0_3.length : Int)) ≤ (l0_3.length : Int) then ((some (l0_3.drop ((Int.tmod (wrap64 (-(wrap64 (a1 + 1)))) (l0_3.length : Int)) : Int).toNat : List (S42))).bind fun y320 => (if y317.length + y320.length < 3518437208883 then ((some (y317 ++ y320 : List (S42))).bind fun y324 => ((some (l0_3.take ((Int.tmod (wrap64 (-(wrap64 (a1 + 1)))) (l0_3.length : Int)) : Int).toNat : List (S42))).bind fun y327 => (if y324.length + y327.length < 3518437208883 then ((some (([] : List (S42)) : List (S42))).bind fun y335 => ((some (l0_3.take ((Int.tmod (wrap64 (-(wrap64 (a1 + 1)))) (l0_3.length : Int)) : Int).toNat : List (S42))).bind fun y338 => (if y335.length + y338.length < 3518437208883 then ((some (y335 ++ y338 : List (S42))).bind fun y342 => (if 0 ≤ (wrap64 ((Int.tmod (wrap64 (-(wrap64 (a1 + 1)))) (l0_3.length : Int)) + 1)) then (if (wrap64 ((Int.tmod (wrap64 (-(wrap64 (a1 + 1)))) (l0_3.length : Int)) + 1)) ≤ (l0_3.length : Int) then ((some (l0_3.drop ((wrap64 ((Int.tmod (wrap64 (-(wrap64 (a1 + 1)))) (l0_3.length : Int)) + 1)) : Int).toNat : List (S42))).bind fun y345 => (if y342.length + y345.length < 3518437208883 then ((some (([] : List (S42)) : List (S42))).bind fun y353 => (if y353.length + l0_3.length < 3518437208883 then ((some (y353 ++ l0_3 : List (S42))).bind fun y356 => (if (Int.tmod (wrap64 (-(wrap64 (a1 + 1)))) (l0_3.length : Int)) < (y356.length : Int) then (if t313 = true then ((journal_Check.f a0_0 a0_1 a0_2 (y324 ++ y327)).bind fun t360 => (if t360 = 0 then ((journal_Check.f a0_0 a0_1 a0_2 (y342 ++ y345)).bind fun t361 => (if t361 = 120 then ((journal_Check.f a0_0 a0_1 a0_2 (y356.set ((Int.tmod (wrap64 (-(wrap64 (a1 + 1)))) (l0_3.length : Int)) : Int).toNat (⟨(rd_T42 y356 (Int.tmod (wrap64 (-(wrap64 (a1 + 1)))) (l0_3.length : Int))).f0, (rd_T42 y356 (Int.tmod (wrap64 (-(wrap64 (a1 + 1)))) (l0_3.length : Int))).f1, a2⟩ : S42))).bind fun t362 => (if (Int.tmod (wrap64 (-(wrap64 (a1 + 1)))) (l0_3.length : Int)) < (l0_3.length : Int) then (some ((t362 == 0) == (a2 == ((rd_T42 l0_3 (Int.tmod (wrap64 (-(wrap64 (a1 + 1)))) (l0_3.length : Int))).f2)))) else (none))) else (none))) else (none))) else (none)) else (none))) else (none))) else (none))) else (none)) else (none))) else (none)))) else (none)))) else (none))) else (none)) else (none)))) else (if (l0_3.length : Int) = 0 then (none) else ((some (([] : List (S42)) : List (S42))).bind fun y365 => (if 0 ≤ (Int.tmod a1 (l0_3.length : Int)) then (if (Int.tmod a1 (l0_3.length : Int)) ≤ (l0_3.length : Int) then ((some (l0_3.drop ((Int.tmod a1 (l0_3.length : Int)) : Int).toNat : List (S42))).bind fun y368 => (if y365.length + y368.length < 3518437208883 then ((some (y365 ++ y368 : List (S42))).bind fun y372 => ((some (l0_3.take ((Int.tmod a1 (l0_3.length : Int)) : Int).toNat : List (S42))).bind fun y375 => (if y372.length + y375.length < 3518437208883 then ((some (([] : List (S42)) : List (S42))).bind fun y383 => ((some (l0_3.take ((Int.tmod a1 (l0_3.length : Int)) : Int).toNat : List (S42))).bind fun y386 => (if y383.length + y386.length < 3518437208883 then ((some (y383 ++ y386 : List (S42))).bind fun y390 => (if 0 ≤ (wrap64 ((Int.tmod a1 (l0_3.length : Int)) + 1)) then (if (wrap64 ((Int.tmod a1 (l0_3.length : Int)) + 1)) ≤ (l0_3.length : Int) then ((some (l0_3.drop ((wrap64 ((Int.tmod a1 (l0_3.length : Int)) + 1)) : Int).toNat : List (S42))).bind fun y393 => (if y390.length + y393.length < 3518437208883 then ((some (([] : List (S42)) : List (S42))).bind fun y401 => (if y401.length + l0_3.length < 3518437208883 then ((some (y401 ++ l0_3 : List (S42))).bind fun y404 => (if (Int.tmod a1 (l0_3.length : Int)) < (y404.length : Int) then (if t313 = true then ((journal_Check.f a0_0 a0_1 a0_2 (y372 ++ y375)).bind fun t408 => (if t408 = 0 then ((journal_Check.f a0_0 a0_1 a0_2 (y390 ++ y393)).bind fun t409 => (if t409 = 120 then ((journal_Check.f a0_0 a0_1 a0_2 (y404.set ((Int.tmod a1 (l0_3.length : Int)) : Int).toNat (⟨(rd_T42 y404 (Int.tmod a1 (l0_3.length : Int))).f0, (rd_T42 y404 (Int.tmod a1 (l0_3.length : Int))).f1, a2⟩ : S42))).bind fun t410 => (if (Int.tmod a1 (l0_3.length : Int)) < (l0_3.length : Int) then (some ((t410 == 0) == (a2 == ((rd_T42 l0_3 (Int.tmod a1 (l0_3.length : Int))).f2)))) else (none))) else (none))) else (none))) else (none)) else (none))) else (none))) else (none))) else (none)) else (none))) else (none)))) else (none)))) else (none))) else (none)) else (none))))) = some r := by rw [if_neg (show ¬ (false = true) by decide)] at H; exact H
    clear H
    have H := H1
    clear H1
    by_cases c18 : a1 < 0
    ·rw [if_pos c18] at H
     have c18b0 : decide (a1 < 0) = true := decide_eq_true c18
     clear c18
     by_cases c19 : (l0_3.length : Int) = 0
     ·rw [if_pos c19] at H
      exact absurd H (by simp)
     ·rw [if_neg c19] at H
      have c19b0 : ((l0_3.length : Int) == 0) = false := beq_eq_false_iff_ne.mpr c19
      have c19b1 : ((l0_3.length : Int) != 0) = true := bne_iff_ne.mpr c19
      have c19b2 : ¬ (l0_3 = []) := fun h_ => c19 (by rw [h_]; rfl)
      obtain ⟨y317, hy317⟩ : ∃ y_ : List (S42), y_ = (([] : List (S42))) := ⟨_, rfl⟩
      (first | (replace H := named2_ hy317 H; (try dsimp only at H)) | (rw [← hy317] at H) | skip)
      have Ny317 := a_ hy317
      clear hy317
      obtain ⟨ji20, hji20⟩ : ∃ j_ : Int, (Int.tmod (wrap64 (-(wrap64 (a1 + 1)))) (l0_3.length : Int)) = j_ := ⟨_, rfl⟩
      replace H : (if 0 ≤ (ji20) then (if (ji20) ≤ (l0_3.length : Int) then ((some (l0_3.drop ((ji20) : Int).toNat : List (S42))).bind fun y320 => (if y317.length + y320.length < 3518437208883 then ((some (y317 ++ y320 : List (S42))).bind fun y324 => ((some (l0_3.take ((ji20) : Int).toNat : List (S42))).bind fun y327 => (if y324.length + y327.length < 3518437208883 then ((some (([] : List (S42)) : List (S42))).bind fun y335 => ((some (l0_3.take ((ji20) : Int).toNat : List (S42))).bind fun y338 => (if y335.length + y338.length < 3518437208883 then ((some (y335 ++ y338 : List (S42))).bind fun y342 => (if 0 ≤ (wrap64 ((ji20) + 1)) then (if (wrap64 ((ji20) + 1)) ≤ (l0_3.length : Int) then ((some (l0_3.drop ((wrap64 ((ji20) + 1)) : Int).toNat : List (S42))).bind fun y345 => (if y342.length + y345.length < 3518437208883 then ((some (([] : List (S42)) : List (S42))).bind fun y353 => (if y353.length + l0_3.length < 3518437208883 then ((some (y353 ++ l0_3 : List (S42))).bind fun y356 => (if (ji20) < (y356.length : Int) then (if t313 = true then ((journal_Check.f a0_0 a0_1 a0_2 (y324 ++ y327)).bind fun t360 => (if t360 = 0 then ((journal_Check.f a0_0 a0_1 a0_2 (y342 ++ y345)).bind fun t361 => (if t361 = 120 then ((journal_Check.f a0_0 a0_1 a0_2 (y356.set ((ji20) : Int).toNat (⟨(rd_T42 y356 (ji20)).f0, (rd_T42 y356 (ji20)).f1, a2⟩ : S42))).bind fun t362 => (if (ji20) < (l0_3.length : Int) then (some ((t362 == 0) == (a2 == ((rd_T42 l0_3 (ji20)).f2)))) else (none))) else (none))) else (none))) else (none)) else (none))) else (none))) else (none))) else (none)) else (none))) else (none)))) else (none)))) else (none))) else (none)) else (none)) = some r := by first | (rw [hji20] at H; exact H) | (simp only [hji20] at H ⊢; exact H)
      by_cases c21 : 0 ≤ (ji20)
      ·rw [if_pos c21] at H
       have c21b0 := eq_true c21
       have c21b1 : decide (0 ≤ (ji20)) = true := decide_eq_true c21
       clear c21
       by_cases c22 : (ji20) ≤ (l0_3.length : Int)
       ·rw [if_pos c22] at H
        have c22b0 := eq_true c22
        have c22b1 : decide ((ji20) ≤ (l0_3.length : Int)) = true := decide_eq_true c22
        clear c22
        obtain ⟨y320, hy320⟩ : ∃ y_ : List (S42), y_ = (l0_3.drop ((ji20) : Int).toNat) := ⟨_, rfl⟩
        (first | (replace H := named2_ hy320 H; (try dsimp only at H)) | (rw [← hy320] at H) | skip)
        have Ny320 := a_ hy320
        clear hy320
        by_cases c23 : y317.length + y320.length < 3518437208883
        ·rw [if_pos c23] at H
         have LMc23 := a_ c23
         clear c23
         obtain ⟨y324, hy324⟩ : ∃ y_ : List (S42), y_ = (y317 ++ y320) := ⟨_, rfl⟩
         (first | (replace H := named2_ hy324 H; (try dsimp only at H)) | (rw [← hy324] at H) | skip)
         have Ny324 := a_ hy324
         clear hy324
         have c24b0 := eq_true (of_decide_eq_true (by first | (with_reducible assumption) | assumption) : 0 ≤ (ji20))
         have c25b0 := eq_true (of_decide_eq_true (by first | (with_reducible assumption) | assumption) : (ji20) ≤ (l0_3.length : Int))
         obtain ⟨y327, hy327⟩ : ∃ y_ : List (S42), y_ = (l0_3.take ((ji20) : Int).toNat) := ⟨_, rfl⟩
         (first | (replace H := named2_ hy327 H; (try dsimp only at H)) | (rw [← hy327] at H) | skip)
         have Ny327 := a_ hy327
         clear hy327
         by_cases c26 : y324.length + y327.length < 3518437208883
         ·rw [if_pos c26] at H
          have LMc26 := a_ c26
          clear c26
          obtain ⟨y331, hy331⟩ : ∃ y_ : List (S42), y_ = (y324 ++ y327) := ⟨_, rfl⟩
          (first | (replace H := named2_ hy331 H; (try dsimp only at H)) | (rw [← hy331] at H) | skip)
          have Ny331 := a_ hy331
          clear hy331
          obtain ⟨y335, hy335⟩ : ∃ y_ : List (S42), y_ = (([] : List (S42))) := ⟨_, rfl⟩
          (first | (replace H := named2_ hy335 H; (try dsimp only at H)) | (rw [← hy335] at H) | skip)
          have Ny335 := a_ hy335
          clear hy335
          have c27b0 := eq_true (of_decide_eq_true (by first | (with_reducible assumption) | assumption) : 0 ≤ (ji20))
          have c28b0 := eq_true (of_decide_eq_true (by first | (with_reducible assumption) | assumption) : (ji20) ≤ (l0_3.length : Int))
          obtain ⟨y338, hy338⟩ : ∃ y_ : List (S42), y_ = (l0_3.take ((ji20) : Int).toNat) := ⟨_, rfl⟩
          (first | (replace H := named2_ hy338 H; (try dsimp only at H)) | (rw [← hy338] at H) | skip)
          have Ny338 := a_ hy338
          have Ey338_ := a_ (show y327.length = y338.length by rw [Ny327.out, Ny338.out])
          clear hy338
          by_cases c29 : y335.length + y338.length < 3518437208883
          ·rw [if_pos c29] at H
           have LMc29 := a_ c29
           clear c29
           obtain ⟨y342, hy342⟩ : ∃ y_ : List (S42), y_ = (y335 ++ y338) := ⟨_, rfl⟩
           (first | (replace H := named2_ hy342 H; (try dsimp only at H)) | (rw [← hy342] at H) | skip)
           have Ny342 := a_ hy342
           clear hy342
           obtain ⟨ji30, hji30⟩ : ∃ j_ : Int, (wrap64 ((ji20) + 1)) = j_ := ⟨_, rfl⟩
           replace H : (if 0 ≤ (ji30) then (if (ji30) ≤ (l0_3.length : Int) then ((some (l0_3.drop ((ji30) : Int).toNat : List (S42))).bind fun y345 => (if y342.length + y345.length < 3518437208883 then ((some (([] : List (S42)) : List (S42))).bind fun y353 => (if y353.length + l0_3.length < 3518437208883 then ((some (y353 ++ l0_3 : List (S42))).bind fun y356 => (if (ji20) < (y356.length : Int) then (if t313 = true then ((journal_Check.f a0_0 a0_1 a0_2 y331).bind fun t360 => (if t360 = 0 then ((journal_Check.f a0_0 a0_1 a0_2 (y342 ++ y345)).bind fun t361 => (if t361 = 120 then ((journal_Check.f a0_0 a0_1 a0_2 (y356.set ((ji20) : Int).toNat (⟨(rd_T42 y356 (ji20)).f0, (rd_T42 y356 (ji20)).f1, a2⟩ : S42))).bind fun t362 => (if (ji20) < (l0_3.length : Int) then (some ((t362 == 0) == (a2 == ((rd_T42 l0_3 (ji20)).f2)))) else (none))) else (none))) else (none))) else (none)) else (none))) else (none))) else (none))) else (none)) else (none)) = some r := by first | (rw [hji30] at H; exact H) | (simp only [hji30] at H ⊢; exact H)
           have hji30w : (IntKind.i64.wrap ((ji20) + 1)) = ji30 := (i64_w _).trans hji30
           by_cases c31 : 0 ≤ (ji30)
           ·rw [if_pos c31] at H
            have c31b0 := eq_true c31
            have c31b1 : decide (0 ≤ (ji30)) = true := decide_eq_true c31
            clear c31
            by_cases c32 : (ji30) ≤ (l0_3.length : Int)
            ·rw [if_pos c32] at H
             have c32b0 := eq_true c32
             have c32b1 : decide ((ji30) ≤ (l0_3.length : Int)) = true := decide_eq_true c32
             clear c32
             obtain ⟨y345, hy345⟩ : ∃ y_ : List (S42), y_ = (l0_3.drop ((ji30) : Int).toNat) := ⟨_, rfl⟩
             (first | (replace H := named2_ hy345 H; (try dsimp only at H)) | (rw [← hy345] at H) | skip)
             have Ny345 := a_ hy345
             clear hy345
             by_cases c33 : y342.length + y345.length < 3518437208883
             ·rw [if_pos c33] at H
              have LMc33 := a_ c33
              clear c33
              obtain ⟨y349, hy349⟩ : ∃ y_ : List (S42), y_ = (y342 ++ y345) := ⟨_, rfl⟩
              (first | (replace H := named2_ hy349 H; (try dsimp only at H)) | (rw [← hy349] at H) | skip)
              have Ny349 := a_ hy349
              clear hy349
              obtain ⟨y353, hy353⟩ : ∃ y_ : List (S42), y_ = (([] : List (S42))) := ⟨_, rfl⟩
              (first | (replace H := named2_ hy353 H; (try dsimp only at H)) | (rw [← hy353] at H) | skip)
              have Ny353 := a_ hy353
              clear hy353
              by_cases c34 : y353.length + l0_3.length < 3518437208883
              ·rw [if_pos c34] at H
               have LMc34 := a_ c34
               clear c34
               obtain ⟨y356, hy356⟩ : ∃ y_ : List (S42), y_ = (y353 ++ l0_3) := ⟨_, rfl⟩
               (first | (replace H := named2_ hy356 H; (try dsimp only at H)) | (rw [← hy356] at H) | skip)
               have Ny356 := a_ hy356
               clear hy356
               by_cases c35 : (ji20) < (y356.length : Int)
               ·rw [if_pos c35] at H
                have c35b0 : decide ((ji20) < (y356.length : Int)) = true := decide_eq_true c35
                clear c35
                obtain ⟨y359, hy359⟩ : ∃ y_ : List (S42), y_ = (y356.set ((ji20) : Int).toNat (⟨(rd_T42 y356 (ji20)).f0, (rd_T42 y356 (ji20)).f1, a2⟩ : S42)) := ⟨_, rfl⟩
                (first | (replace H := named2_ hy359 H; (try dsimp only at H)) | (rw [← hy359] at H) | skip)
                have Ny359 := a_ hy359
                clear hy359
                by_cases c37 : t313 = true
                ·subst c37
                 have H1 : ((journal_Check.f a0_0 a0_1 a0_2 y331).bind fun t360 => (if t360 = 0 then ((journal_Check.f a0_0 a0_1 a0_2 y349).bind fun t361 => (if t361 = 120 then ((journal_Check.f a0_0 a0_1 a0_2 y359).bind fun t362 => (if (ji20) < (l0_3.length : Int) then (some ((t362 == 0) == (a2 == ((rd_T42 l0_3 (ji20)).f2)))) else (none))) else (none))) else (none))) = some r := by rw [if_pos rfl] at H; exact H
                 clear H
                 have H := H1
                 clear H1
                 replace H := Option.bind_eq_some_iff.mp H
                 obtain ⟨t360, A380, H⟩ := H
                 (try dsimp only at H)
                 have A38 := a_ A380
                 clear A380
                 by_cases c39 : t360 = 0
                 ·rw [if_pos c39] at H
                  have c39b0 : (t360 == 0) = true := beq_iff_eq.mpr c39
                  have c39b1 : (t360 != 0) = false := bne_eq_false_iff_eq.mpr c39
                  clear c39
                  replace H := Option.bind_eq_some_iff.mp H
                  obtain ⟨t361, A400, H⟩ := H
                  (try dsimp only at H)
                  have A40 := a_ A400
                  clear A400
                  by_cases c41 : t361 = 120
                  ·rw [if_pos c41] at H
                   have c41b0 : (t361 == 120) = true := beq_iff_eq.mpr c41
                   have c41b1 : (t361 != 120) = false := bne_eq_false_iff_eq.mpr c41
                   clear c41
                   replace H := Option.bind_eq_some_iff.mp H
                   obtain ⟨t362, A420, H⟩ := H
                   (try dsimp only at H)
                   have A42 := a_ A420
                   clear A420
                   by_cases c43 : (ji20) < (l0_3.length : Int)
                   ·rw [if_pos c43] at H
                    have c43b0 : decide ((ji20) < (l0_3.length : Int)) = true := decide_eq_true c43
                    clear c43
                    obtain rfl := Option.some.inj H
                    have hcz44_0 : wc.cell? ⟨gb312, 0, none⟩ = some (.int .u64 a0_0) := (blk_cell BK312.out 0).trans rfl
                    have hcz44_1 : wc.cell? ⟨gb312, 1, none⟩ = some (.int .u64 a0_1) := (blk_cell BK312.out 1).trans rfl
                    have hcz44_2 : wc.cell? ⟨gb312, 2, none⟩ = some (.string a0_2) := (blk_cell BK312.out 2).trans rfl
                    have hcz44_3 : wc.cell? ⟨gb312, 3, none⟩ = some (.slice A0_3 l0_3.length c0_3) := (blk_cell BK312.out 3).trans rfl
                    have hfz44_0 := blk_frozen BK312.out 0
                    have hfz44_1 := blk_frozen BK312.out 1
                    have hfz44_2 := blk_frozen BK312.out 2
                    have hfz44_3 := blk_frozen BK312.out 3
                    try go_wp2_with (first | ((with_reducible refine gate_dst (N := 8) rfl ?_); refine box_event ?hg (N := 8) ?hd (cs := #[.int .u64 0, .int .u64 0, .string (⟨#[]⟩ : ByteArray), .slice none 0 0]) (t := 26) ?hr ?_; (case hd => rfl); (case hg => rfl); (case hr => first | (go_simp; done) | (go_simp; rfl)); intro gb316 hg w45 hbox hb; have n0_ := a_ (blk_below (g := gb312) (o := .cells #[.int .u64 a0_0, .int .u64 a0_1, .string a0_2, .slice A0_3 l0_3.length c0_3] 26 (0, 0)) (by (with_reducible repeat (first | refine kN_ ?_ _ | refine kD_ ?_ | refine kA_ ?_ _)); exact BK312.out) hb); have n1_ := a_ (below_step (by repeat (first | (with_reducible first | exact HB.out | apply bA_ | apply bN_ | apply b1_ | refine bS_ ?_ GE312.out) | exact HB.out)) hb); have n2_ := a_ (hbox); have n3_ := a_ ((by rw [hg]; exact (below_size (by repeat (first | (with_reducible first | exact HB.out | apply bA_ | apply bN_ | apply b1_ | refine bS_ ?_ GE312.out) | exact HB.out))) : w.heap.size ≤ gb316)); have n4_ := a_ ((by rw [hg]; exact (below_size (by repeat (first | (with_reducible first | exact HB.out | apply bA_ | apply bN_ | apply b1_ | refine bS_ ?_ GE312.out) | exact HB.out))) : w.heap.size ≤ gb316)); have n5_ := a_ ((by rw [hg]; exact Nat.ne_of_lt (blk_lt (g := gb312) (o := .cells #[.int .u64 a0_0, .int .u64 a0_1, .string a0_2, .slice A0_3 l0_3.length c0_3] 26 (0, 0)) (by (with_reducible repeat (first | refine kN_ ?_ _ | refine kD_ ?_ | refine kA_ ?_ _)); exact BK312.out)) : gb312 ≠ gb316)); have n6_ := a_ ((by rw [hg]; exact Nat.ne_of_gt (blk_lt (g := gb312) (o := .cells #[.int .u64 a0_0, .int .u64 a0_1, .string a0_2, .slice A0_3 l0_3.length c0_3] 26 (0, 0)) (by (with_reducible repeat (first | refine kN_ ?_ _ | refine kD_ ?_ | refine kA_ ?_ _)); exact BK312.out)) : gb316 ≠ gb312)); clear BK312; clear HB; have BK312 := n0_; have HB := n1_; have BK316 := n2_; have GW316 := n3_; have GE316 := n4_; have NB312_316 := n5_; have NB316_312 := n6_; clear n0_ n1_ n2_ n3_ n4_ n5_ n6_; clear hb hbox hg; have hnb46 := NB316_312.out; have hnc46 := NB312_316.out; have hcz47_0 : w45.cell? ⟨gb316, 0, none⟩ = some (.int .u64 0) := (blk_cell BK316.out 0).trans rfl; have hcz47_1 : w45.cell? ⟨gb316, 1, none⟩ = some (.int .u64 0) := (blk_cell BK316.out 1).trans rfl; have hcz47_2 : w45.cell? ⟨gb316, 2, none⟩ = some (.string (⟨#[]⟩ : ByteArray)) := (blk_cell BK316.out 2).trans rfl; have hcz47_3 : w45.cell? ⟨gb316, 3, none⟩ = some (.slice none 0 0) := (blk_cell BK316.out 3).trans rfl; have hfz47_0 := blk_frozen BK316.out 0; have hfz47_1 := blk_frozen BK316.out 1; have hfz47_2 := blk_frozen BK316.out 2; have hfz47_3 := blk_frozen BK316.out 3))
                    have n0_ : Aside0 (((((w45.setCell ⟨gb316, 0, none⟩ (.int .u64 a0_0)).setCell ⟨gb316, 1, none⟩ (.int .u64 a0_1)).setCell ⟨gb316, 2, none⟩ (.string a0_2)).setCell ⟨gb316, 3, none⟩ (.slice A0_3 l0_3.length c0_3)).heap[gb312]? = some (.cells #[.int .u64 a0_0, .int .u64 a0_1, .string a0_2, .slice A0_3 l0_3.length c0_3] 26 (0, 0))) := ⟨by (with_reducible repeat (first | refine kN_ ?_ _ | refine kD_ ?_ | refine kA_ ?_ _)); refine blk_far ?_ NB312_316.out _; (with_reducible repeat (first | refine kN_ ?_ _ | refine kD_ ?_ | refine kA_ ?_ _)); refine blk_far ?_ NB312_316.out _; (with_reducible repeat (first | refine kN_ ?_ _ | refine kD_ ?_ | refine kA_ ?_ _)); refine blk_far ?_ NB312_316.out _; (with_reducible repeat (first | refine kN_ ?_ _ | refine kD_ ?_ | refine kA_ ?_ _)); refine blk_far ?_ NB312_316.out _; (with_reducible repeat (first | refine kN_ ?_ _ | refine kD_ ?_ | refine kA_ ?_ _)); exact BK312.out⟩
                    have n1_ : Aside0 (((((w45.setCell ⟨gb316, 0, none⟩ (.int .u64 a0_0)).setCell ⟨gb316, 1, none⟩ (.int .u64 a0_1)).setCell ⟨gb316, 2, none⟩ (.string a0_2)).setCell ⟨gb316, 3, none⟩ (.slice A0_3 l0_3.length c0_3)).heap[gb316]? = some (.cells #[.int .u64 a0_0, .int .u64 a0_1, .string a0_2, .slice A0_3 l0_3.length c0_3] 26 (0, 0))) := ⟨by (with_reducible repeat (first | refine kN_ ?_ _ | refine kD_ ?_ | refine kA_ ?_ _)); refine blk_put (cs := #[.int .u64 a0_0, .int .u64 a0_1, .string a0_2, .slice none 0 0]) ?_ 3 _ rfl; (with_reducible repeat (first | refine kN_ ?_ _ | refine kD_ ?_ | refine kA_ ?_ _)); refine blk_put (cs := #[.int .u64 a0_0, .int .u64 a0_1, .string (⟨#[]⟩ : ByteArray), .slice none 0 0]) ?_ 2 _ rfl; (with_reducible repeat (first | refine kN_ ?_ _ | refine kD_ ?_ | refine kA_ ?_ _)); refine blk_put (cs := #[.int .u64 a0_0, .int .u64 0, .string (⟨#[]⟩ : ByteArray), .slice none 0 0]) ?_ 1 _ rfl; (with_reducible repeat (first | refine kN_ ?_ _ | refine kD_ ?_ | refine kA_ ?_ _)); refine blk_put (cs := #[.int .u64 0, .int .u64 0, .string (⟨#[]⟩ : ByteArray), .slice none 0 0]) ?_ 0 _ rfl; (with_reducible repeat (first | refine kN_ ?_ _ | refine kD_ ?_ | refine kA_ ?_ _)); exact BK316.out⟩
                    have n2_ : Aside0 (Below w.heap.size w ((((w45.setCell ⟨gb316, 0, none⟩ (.int .u64 a0_0)).setCell ⟨gb316, 1, none⟩ (.int .u64 a0_1)).setCell ⟨gb316, 2, none⟩ (.string a0_2)).setCell ⟨gb316, 3, none⟩ (.slice A0_3 l0_3.length c0_3))) := ⟨by repeat (first | (with_reducible first | exact HB.out | apply bA_ | apply bN_ | apply b1_ | refine bS_ ?_ GE312.out | refine bS_ ?_ GE316.out) | exact HB.out)⟩
                    (try clear BK312)
                    (try clear BK316)
                    (try clear HB)
                    generalize ((((w45.setCell ⟨gb316, 0, none⟩ (.int .u64 a0_0)).setCell ⟨gb316, 1, none⟩ (.int .u64 a0_1)).setCell ⟨gb316, 2, none⟩ (.string a0_2)).setCell ⟨gb316, 3, none⟩ (.slice A0_3 l0_3.length c0_3)) = w48 at n0_ n1_ n2_ ⊢
                    have BK312 := n0_
                    have BK316 := n1_
                    have HB := n2_
                    clear n0_ n1_ n2_
                    have n0_ := a_ (blk_drew BK312.out)
                    have n1_ := a_ (blk_drew BK316.out)
                    have n2_ := a_ (below_drew1 HB.out)
                    clear BK312
                    clear BK316
                    clear HB
                    have BK312 := n0_
                    have BK316 := n1_
                    have HB := n2_
                    clear n0_ n1_ n2_
                    have q50 : ((ji20) : Int) ≤ ((l0_3.length : Int) : Int) := of_decide_eq_true (by first | (with_reducible assumption) | assumption)
                    obtain ⟨i050, hi050, _, hsz50, _⟩ := info_parts info42
                    have hroom50 : l0_3.length ≤ c0_3 := HC0_3.out
                    have hC50 : Kd.C k42 _ A0_3 l0_3.length l0_3 := HR0_3.out
                    have q050 : (0 : Int) ≤ ((ji20) : Int) := of_decide_eq_true (by first | (with_reducible assumption) | assumption)
                    have hcut50 := cut_from (P := Tryd.prog) 24 42 .i64 Tryd.underlying24 hi050 3 hsz50 A0_3 l0_3.length c0_3 (ji20) q050 q50
                    have hr50 := Kd.C_drop (m := ((ji20) : Int).toNat) (c := c0_3) hC50 (by omega) hroom50
                    obtain ⟨A50, hA50⟩ : ∃ A1, A1 = (if c0_3 = ((ji20) : Int).toNat then A0_3 else (A0_3 : Option Addr).map (·.add (((ji20) : Int).toNat * 3))) := ⟨_, rfl⟩
                    obtain ⟨c50, hc50⟩ : ∃ c1, c1 = c0_3 - ((ji20) : Int).toNat := ⟨_, rfl⟩
                    have hy50 : y320.length = l0_3.length - ((ji20) : Int).toNat := (by rw [Ny320.out, List.length_drop] <;> omega)
                    rw [show (l0_3).drop ((ji20) : Int).toNat = y320 from Ny320.out.symm] at hr50
                    replace hr50 : Kd.C k42 _ A50 y320.length y320 := (by rw [hA50]; exact hr50)
                    rw [← hy50, ← hA50, ← hc50] at hcut50
                    have HR323 := a_ hr50
                    have HC323 := a_ (show y320.length ≤ c50 from by rw [hy50, hc50]; exact Nat.sub_le_sub_right hroom50 _)
                    clear hr50 hC50 hroom50 hi050 hsz50 hc50
                    have KY50 := a_ hy50
                    have KA50 := a_ hA50
                    clear hy50 hA50
                    replace q50 := eq_true q50
                    have q51 : ((ji20) : Int) ≤ ((l0_3.length : Int) : Int) := of_decide_eq_true (by first | (with_reducible assumption) | assumption)
                    obtain ⟨i051, hi051, _, hsz51, _⟩ := info_parts info42
                    have hroom51 : l0_3.length ≤ c0_3 := HC0_3.out
                    have hC51 : Kd.C k42 _ A0_3 l0_3.length l0_3 := HR0_3.out
                    have hcut51 := cut_to (P := Tryd.prog) 24 42 .i64 Tryd.underlying24 hi051 A0_3 l0_3.length c0_3 (ji20) (of_decide_eq_true (by first | (with_reducible assumption) | assumption)) q51 hroom51
                    have hr51 := Kd.C_take (m := ((ji20) : Int).toNat) hC51 (by omega)
                    have hy51 : y327.length = ((ji20) : Int).toNat := (by rw [Ny327.out, List.length_take]; omega)
                    rw [← Ny327.out] at hr51
                    rw [← hy51] at hcut51
                    have HR330 := a_ hr51
                    have HC330 := a_ (show y327.length ≤ c0_3 from by omega)
                    clear hr51 hC51 hroom51 hi051 hsz51
                    have KY51 := a_ hy51
                    clear hy51
                    replace q51 := eq_true q51
                    refine start_ (n := 13) (S := fun w' => w'.cell? ⟨gb312, 0, none⟩ = some (.int .u64 a0_0) ∧ w'.cell? ⟨gb312, 1, none⟩ = some (.int .u64 a0_1) ∧ w'.cell? ⟨gb312, 2, none⟩ = some (.string a0_2) ∧ w'.cell? ⟨gb312, 3, none⟩ = some (.slice A0_3 l0_3.length c0_3)) (ds := []) #[false, false, false, false, false, false, false, false, false, false, false, false, false] (by kernel_rfl) rfl rfl ⟨(blk_cell BK312.out 0).trans rfl, (blk_cell BK312.out 1).trans rfl, (blk_cell BK312.out 2).trans rfl, (blk_cell BK312.out 3).trans rfl⟩ (fun hHeld => ?_); refine with_tabW cambistlaw12_JournalLegs.tab8 cambistlaw12_JournalLegs.bits8 (fun HT_ HW_ => ?_)
                    generalize w48.drew = w49 at BK312 BK316 HB HR323 HR330 hHeld ⊢
                    refine pure_ (i := 1) (N := some 33) (v := ?_) (a' := ?_) (fl_ 13 2) rfl rfl (any_of HT_.out (by kernel_rfl)) (fun _ _ _ h => h) (Or.inl ⟨by rfl, ?_⟩) ?_ ?_
                    rotate_left
                    ·intro w'
                     go_simp
                     with_reducible rfl
                    rotate_left
                    ·simp only [Act.put, sT_, s0_, sS_, i64_w, i32_w]
                     rfl
                    refine pure_ (i := 3) (N := some 35) (v := ?_) (a' := ?_) (fl_ 13 10) rfl rfl (any_of HT_.out (by kernel_rfl)) (fun _ _ _ h => h) (Or.inl ⟨by rfl, ?_⟩) ?_ ?_
                    rotate_left
                    ·intro w'
                     go_simp
                     with_reducible rfl
                    rotate_left
                    ·simp only [Act.put, sT_, s0_, sS_, i64_w, i32_w]
                     rfl
                    refine pure_ (i := 6) (N := some 38) (v := ?_) (a' := ?_) (fl_ 13 74) rfl rfl (any_of HT_.out (by kernel_rfl)) (fun _ _ _ h => h) (Or.inl ⟨by rfl, ?_⟩) ?_ ?_
                    rotate_left
                    ·intro w'
                     go_simp
                     with_reducible rfl
                    rotate_left
                    ·simp only [Act.put, sT_, s0_, sS_, i64_w, i32_w]
                     rfl
                    refine pure_ (i := 8) (N := some 40) (v := ?_) (a' := ?_) (fl_ 13 330) rfl rfl (any_of HT_.out (by kernel_rfl)) (fun _ _ _ h => h) (Or.inl ⟨by rfl, ?_⟩) ?_ ?_
                    rotate_left
                    ·intro w'
                     go_simp
                     with_reducible rfl
                    rotate_left
                    ·simp only [Act.put, sT_, s0_, sS_, i64_w, i32_w]
                     rfl
                    refine take_ (i := 2) (N := some 34) (v := ?_) (a' := ?_) (fl_ 13 334) rfl rfl (take_ofW HT_.out HW_.out (by kernel_rfl)) (fun _ _ _ h => h) (Or.inl ⟨by rfl, ?_⟩) hHeld ?_ ?_
                    rotate_left
                    ·rintro w' ⟨s0, s1, s2, s3⟩
                     go_simp
                     with_reducible rfl
                    rotate_left
                    ·simp only [Act.put, sT_, s0_, sS_, i64_w, i32_w]
                     rfl
                    refine pure_ (i := 4) (N := some 36) (v := ?_) (a' := ?_) (fl_ 13 350) rfl rfl (any_of HT_.out (by kernel_rfl)) (fun _ _ _ h => h) (Or.inl ⟨by rfl, ?_⟩) ?_ ?_
                    rotate_left
                    ·intro w'
                     go_simp
                     with_reducible rfl
                    rotate_left
                    ·simp only [Act.put, sT_, s0_, sS_, i64_w, i32_w]
                     rfl
                    refine take_ (i := 7) (N := some 39) (v := ?_) (a' := ?_) (fl_ 13 478) rfl rfl (take_ofW HT_.out HW_.out (by kernel_rfl)) (fun _ _ _ h => h) (Or.inl ⟨by rfl, ?_⟩) hHeld ?_ ?_
                    rotate_left
                    ·rintro w' ⟨s0, s1, s2, s3⟩
                     go_simp
                     with_reducible rfl
                    rotate_left
                    ·simp only [Act.put, sT_, s0_, sS_, i64_w, i32_w]
                     rfl
                    refine pure_ (i := 9) (N := some 41) (v := ?_) (a' := ?_) (fl_ 13 990) rfl rfl (any_of HT_.out (by kernel_rfl)) (fun _ _ _ h => h) (Or.inl ⟨by rfl, ?_⟩) ?_ ?_
                    rotate_left
                    ·intro w'
                     go_simp
                     with_reducible rfl
                    rotate_left
                    ·simp only [Act.put, sT_, s0_, sS_, i64_w, i32_w]
                     rfl
                    refine one_ (i := 0) (N := some 32) (fl_ 13 991) rfl rfl (one_of HT_.out (by kernel_rfl)) (by decide) (fun K hK => ?_)
                    refine Kd.R_lit_step k42 _ 42 ?hg (N := 32) ?hd (xs := ([] : List (S42))) (inner := []) (ok := fun _ => True) (okp := fun _ => True) ?hr ?hp (fun _ hk => hk) trivial (Below.refl _ _) (Nat.le_refl _) (by simp) ?_; (case hd => rfl); (case hg => rfl); (case hr => first | (go_simp; done) | (go_simp; rfl)); (case hp => exact (Reps.none _ _))
                    intro v318 w52 ho53 hb hg_ hnew_
                    clear hg_ hnew_
                    (first | rw [← Ny317.out] at ho53 | (simp only [Int.reduceToNat] at ho53; rw [← Ny317.out] at ho53))
                    have n0_ := a_ (Kd.R_lower ho53 (below_size (by repeat (first | (with_reducible first | exact HB.out | apply bA_ | apply bN_ | apply b1_ | refine bS_ ?_ GE312.out | refine bS_ ?_ GE316.out) | exact HB.out))))
                    have n1_ := a_ (blk_below (g := gb312) (o := .cells #[.int .u64 a0_0, .int .u64 a0_1, .string a0_2, .slice A0_3 l0_3.length c0_3] 26 (0, 0)) (by (with_reducible repeat (first | refine kN_ ?_ _ | refine kD_ ?_ | refine kA_ ?_ _)); exact BK312.out) hb)
                    have n2_ := a_ (blk_below (g := gb316) (o := .cells #[.int .u64 a0_0, .int .u64 a0_1, .string a0_2, .slice A0_3 l0_3.length c0_3] 26 (0, 0)) (by (with_reducible repeat (first | refine kN_ ?_ _ | refine kD_ ?_ | refine kA_ ?_ _)); exact BK316.out) hb)
                    have n3_ := a_ (below_step (by repeat (first | (with_reducible first | exact HB.out | apply bA_ | apply bN_ | apply b1_ | refine bS_ ?_ GE312.out | refine bS_ ?_ GE316.out) | exact HB.out)) hb)
                    clear BK312
                    clear BK316
                    clear HB
                    have HO319 := n0_
                    have BK312 := n1_
                    have BK316 := n2_
                    have HB := n3_
                    clear n0_ n1_ n2_ n3_
                    clear hb ho53
                    refine hK.out _ _ ⟨(blk_cell BK312.out 0).trans rfl, (blk_cell BK312.out 1).trans rfl, (blk_cell BK312.out 2).trans rfl, (blk_cell BK312.out 3).trans rfl⟩ (fun hHeld => ?_)
                    clear hK K
                    refine norm_ (a' := ?_) ?_ ?_
                    rotate_left
                    ·show Act.put _ (some 32) _ = _
                     simp only [Act.put, sT_, s0_, sS_, i64_w, i32_w]
                     rfl
                    refine one_ (i := 5) (N := some 37) (fl_ 13 1023) rfl rfl (one_of HT_.out (by kernel_rfl)) (by decide) (fun K hK => ?_)
                    refine Kd.R_append_rows_step k42 (w0 := w) w.heap.size (by rfl) (.tmp 32) (.tmp 36) 24 42 (.agg #[(.string ⟨#[]⟩), (.string ⟨#[]⟩), (.int .i64 0)]) 40 rfl Tryd.underlying24 info42 rfl (by decide) (by omega) v318 y317 y320 _ _ _ (fun _ => True) (fun _ => False) rfl rfl ?aO ?aR (fun _ _ h => h) (fun _ h => h.elim) ?aF ?aB ?aS ?aL ?_
                    (case aR => repeat (first | exact (Kd.C_below HR323.out HB.out) | (with_reducible refine Kd.C_alloc ?_ _) | (with_reducible refine Kd.C_drewN ?_ _) | (with_reducible refine Kd.C_drew ?_)))
                    (case aB => exact (by repeat (first | (with_reducible first | exact HB.out | apply bA_ | apply bN_ | apply b1_ | refine bS_ ?_ GE312.out | refine bS_ ?_ GE316.out) | exact HB.out)))
                    (case aF => exact (fun _ _ => trivial))
                    (case aO => exact (by (with_reducible repeat (first | apply Kd.R_alloc | apply Kd.R_drewN | apply Kd.R_drew)); exact HO319.out))
                    (case aS => exact (below_size (by repeat (first | (with_reducible first | exact HB.out | apply bA_ | apply bN_ | apply b1_ | refine bS_ ?_ GE312.out | refine bS_ ?_ GE316.out) | exact HB.out))))
                    (case aL => have := LMc23.out; omega)
                    intro v325 w54 ho hb hg hat
                    rw [← Ny324.out] at ho
                    have n0_ := a_ (blk_grown (g := gb312) (o := .cells #[.int .u64 a0_0, .int .u64 a0_1, .string a0_2, .slice A0_3 l0_3.length c0_3] 26 (0, 0)) (by (with_reducible repeat (first | refine kN_ ?_ _ | refine kD_ ?_ | refine kA_ ?_ _)); exact BK312.out) hg (Kd.R_ne HO319.out BK312.out (by decide)))
                    have n1_ := a_ (blk_grown (g := gb316) (o := .cells #[.int .u64 a0_0, .int .u64 a0_1, .string a0_2, .slice A0_3 l0_3.length c0_3] 26 (0, 0)) (by (with_reducible repeat (first | refine kN_ ?_ _ | refine kD_ ?_ | refine kA_ ?_ _)); exact BK316.out) hg (Kd.R_ne HO319.out BK316.out (by decide)))
                    have n2_ := a_ (hb)
                    have n3_ := a_ (ho)
                    clear BK312
                    clear BK316
                    clear HB
                    clear HO319
                    have BK312 := n0_
                    have BK316 := n1_
                    have HB := n2_
                    have HO326 := n3_
                    clear n0_ n1_ n2_ n3_
                    clear ho hb hg hat
                    refine hK.out _ _ ⟨(blk_cell BK312.out 0).trans rfl, (blk_cell BK312.out 1).trans rfl, (blk_cell BK312.out 2).trans rfl, (blk_cell BK312.out 3).trans rfl⟩ (fun hHeld => ?_)
                    clear hK K
                    refine norm_ (a' := ?_) ?_ ?_
                    rotate_left
                    ·show Act.put _ (some 37) _ = _
                     simp only [Act.put, sT_, s0_, sS_, i64_w, i32_w]
                     rfl
                    refine one_ (i := 10) (N := some 42) (fl_ 13 2047) rfl rfl (one_of HT_.out (by kernel_rfl)) (by decide) (fun K hK => ?_)
                    refine Kd.R_append_rows_step k42 (w0 := w) w.heap.size (by rfl) (.tmp 37) (.tmp 41) 24 42 (.agg #[(.string ⟨#[]⟩), (.string ⟨#[]⟩), (.int .i64 0)]) 40 rfl Tryd.underlying24 info42 rfl (by decide) (by omega) v325 y324 y327 _ _ _ (fun _ => True) (fun _ => False) rfl rfl ?aO ?aR (fun _ _ h => h) (fun _ h => h.elim) ?aF ?aB ?aS ?aL ?_
                    (case aR => repeat (first | exact (Kd.C_below HR330.out HB.out) | (with_reducible refine Kd.C_alloc ?_ _) | (with_reducible refine Kd.C_drewN ?_ _) | (with_reducible refine Kd.C_drew ?_)))
                    (case aB => exact (by repeat (first | (with_reducible first | exact HB.out | apply bA_ | apply bN_ | apply b1_ | refine bS_ ?_ GE312.out | refine bS_ ?_ GE316.out) | exact HB.out)))
                    (case aF => exact (fun _ _ => trivial))
                    (case aO => exact (by (with_reducible repeat (first | apply Kd.R_alloc | apply Kd.R_drewN | apply Kd.R_drew)); exact HO326.out))
                    (case aS => exact (below_size (by repeat (first | (with_reducible first | exact HB.out | apply bA_ | apply bN_ | apply b1_ | refine bS_ ?_ GE312.out | refine bS_ ?_ GE316.out) | exact HB.out))))
                    (case aL => have := LMc26.out; omega)
                    intro v332 w55 ho hb hg hat
                    rw [← Ny331.out] at ho
                    have n0_ := a_ (blk_grown (g := gb312) (o := .cells #[.int .u64 a0_0, .int .u64 a0_1, .string a0_2, .slice A0_3 l0_3.length c0_3] 26 (0, 0)) (by (with_reducible repeat (first | refine kN_ ?_ _ | refine kD_ ?_ | refine kA_ ?_ _)); exact BK312.out) hg (Kd.R_ne HO326.out BK312.out (by decide)))
                    have n1_ := a_ (blk_grown (g := gb316) (o := .cells #[.int .u64 a0_0, .int .u64 a0_1, .string a0_2, .slice A0_3 l0_3.length c0_3] 26 (0, 0)) (by (with_reducible repeat (first | refine kN_ ?_ _ | refine kD_ ?_ | refine kA_ ?_ _)); exact BK316.out) hg (Kd.R_ne HO326.out BK316.out (by decide)))
                    have n2_ := a_ (hb)
                    have n3_ := a_ (ho)
                    clear BK312
                    clear BK316
                    clear HB
                    clear HO326
                    have BK312 := n0_
                    have BK316 := n1_
                    have HB := n2_
                    have HO333 := n3_
                    clear n0_ n1_ n2_ n3_
                    clear ho hb hg hat
                    obtain ⟨Ao56, co56, eo56⟩ := Kd.R_slice HO333.out
                    (first | subst eo56 | (injection eo56 with f1_ f2_ f3_; have f4_ := f1_.symm; have f5_ := f3_.symm; clear f1_ f2_ f3_; subst f4_; subst f5_))
                    refine hK.out _ _ ⟨(blk_cell BK312.out 0).trans rfl, (blk_cell BK312.out 1).trans rfl, (blk_cell BK312.out 2).trans rfl, (blk_cell BK312.out 3).trans rfl⟩ (fun hHeld => ?_)
                    clear hK K
                    refine norm_ (a' := ?_) ?_ ?_
                    rotate_left
                    ·show Act.put _ (some 42) _ = _
                     simp only [Act.put, sT_, s0_, sS_, i64_w, i32_w]
                     rfl
                    refine pure_ (i := 11) (N := some 43) (v := ?_) (a' := ?_) (fl_ 13 4095) rfl rfl (any_of HT_.out (by kernel_rfl)) (fun _ _ _ h => h) (Or.inl ⟨by rfl, ?_⟩) ?_ ?_
                    rotate_left
                    ·intro w'
                     go_simp
                     with_reducible rfl
                    rotate_left
                    ·simp only [Act.put, sT_, s0_, sS_, i64_w, i32_w]
                     rfl
                    refine one_ (i := 12) (N := none) (fl_ 13 8191) rfl rfl (one_of HT_.out (by kernel_rfl)) (by decide) (fun K hK => ?_)
                    have hs57 : w55.cell? ⟨gb316, 3, none⟩ = some (.slice A0_3 l0_3.length c0_3) := (blk_cell BK316.out 3).trans rfl
                    have hfs57 := blk_frozen BK316.out 3
                    have hns57_0 := NB312_316.out
                    have hms57_0 := NB316_312.out
                    refine skip_ (w1 := ?_) (by rfl) rfl ?_ ?_
                    rotate_left
                    ·go_simp
                     rfl
                    refine hK.out _ _ ⟨((cell_far (p := ⟨gb316, _, none⟩) NB312_316.out _).trans (hHeld.1)), ((cell_far (p := ⟨gb316, _, none⟩) NB312_316.out _).trans (hHeld.2.1)), ((cell_far (p := ⟨gb316, _, none⟩) NB312_316.out _).trans (hHeld.2.2.1)), ((cell_far (p := ⟨gb316, _, none⟩) NB312_316.out _).trans (hHeld.2.2.2))⟩ (fun hHeld => ?_)
                    clear hK K
                    refine done_ (done_of HT_.out (by kernel_rfl)) ?_
                    have hcz58_0 : w55.cell? ⟨gb312, 0, none⟩ = some (.int .u64 a0_0) := (blk_cell BK312.out 0).trans rfl
                    have hcz58_1 : w55.cell? ⟨gb312, 1, none⟩ = some (.int .u64 a0_1) := (blk_cell BK312.out 1).trans rfl
                    have hcz58_2 : w55.cell? ⟨gb312, 2, none⟩ = some (.string a0_2) := (blk_cell BK312.out 2).trans rfl
                    have hcz58_3 : w55.cell? ⟨gb312, 3, none⟩ = some (.slice A0_3 l0_3.length c0_3) := (blk_cell BK312.out 3).trans rfl
                    have hfz58_0 := blk_frozen BK312.out 0
                    have hfz58_1 := blk_frozen BK312.out 1
                    have hfz58_2 := blk_frozen BK312.out 2
                    have hfz58_3 := blk_frozen BK312.out 3
                    try go_wp2_with (first | ((with_reducible refine gate_dst (N := 9) rfl ?_); refine box_event ?hg (N := 9) ?hd (cs := #[.int .u64 0, .int .u64 0, .string (⟨#[]⟩ : ByteArray), .slice none 0 0]) (t := 26) ?hr ?_; (case hd => rfl); (case hg => rfl); (case hr => first | (go_simp; done) | (go_simp; rfl)); intro gb334 hg w59 hbox hb; have n0_ := a_ (Kd.R_below (by (with_reducible repeat (first | apply Kd.R_alloc | apply Kd.R_drewN | apply Kd.R_drew)); exact (Kd.R_mono (Kd.R_far (p := ⟨gb316, 3, none⟩) (Kd.R_types HO333.out BK316.out (by decide)) (fun _ hk => hk.2) (.slice Ao56 y331.length co56)) (fun _ h_ => h_.1))) hb); have n1_ := a_ (blk_below (g := gb312) (o := .cells #[.int .u64 a0_0, .int .u64 a0_1, .string a0_2, .slice A0_3 l0_3.length c0_3] 26 (0, 0)) (by (with_reducible repeat (first | refine kN_ ?_ _ | refine kD_ ?_ | refine kA_ ?_ _)); refine blk_far ?_ NB312_316.out _; (with_reducible repeat (first | refine kN_ ?_ _ | refine kD_ ?_ | refine kA_ ?_ _)); exact BK312.out) hb); have n2_ := a_ (blk_below (g := gb316) (o := .cells #[.int .u64 a0_0, .int .u64 a0_1, .string a0_2, .slice Ao56 y331.length co56] 26 (0, 0)) (by (with_reducible repeat (first | refine kN_ ?_ _ | refine kD_ ?_ | refine kA_ ?_ _)); refine blk_put (cs := #[.int .u64 a0_0, .int .u64 a0_1, .string a0_2, .slice A0_3 l0_3.length c0_3]) ?_ 3 _ rfl; (with_reducible repeat (first | refine kN_ ?_ _ | refine kD_ ?_ | refine kA_ ?_ _)); exact BK316.out) hb); have n3_ := a_ (below_step (by repeat (first | (with_reducible first | exact HB.out | apply bA_ | apply bN_ | apply b1_ | refine bS_ ?_ GE312.out | refine bS_ ?_ GE316.out) | exact HB.out)) hb); have n4_ := a_ (hbox); have n5_ := a_ ((by rw [hg]; exact (below_size (by repeat (first | (with_reducible first | exact HB.out | apply bA_ | apply bN_ | apply b1_ | refine bS_ ?_ GE312.out | refine bS_ ?_ GE316.out) | exact HB.out))) : w.heap.size ≤ gb334)); have n6_ := a_ ((by rw [hg]; exact (below_size (by repeat (first | (with_reducible first | exact HB.out | apply bA_ | apply bN_ | apply b1_ | refine bS_ ?_ GE312.out | refine bS_ ?_ GE316.out) | exact HB.out))) : w.heap.size ≤ gb334)); have n7_ := a_ ((by rw [hg]; exact Nat.ne_of_lt (blk_lt (g := gb312) (o := .cells #[.int .u64 a0_0, .int .u64 a0_1, .string a0_2, .slice A0_3 l0_3.length c0_3] 26 (0, 0)) (by (with_reducible repeat (first | refine kN_ ?_ _ | refine kD_ ?_ | refine kA_ ?_ _)); refine blk_far ?_ NB312_316.out _; (with_reducible repeat (first | refine kN_ ?_ _ | refine kD_ ?_ | refine kA_ ?_ _)); exact BK312.out)) : gb312 ≠ gb334)); have n8_ := a_ ((by rw [hg]; exact Nat.ne_of_gt (blk_lt (g := gb312) (o := .cells #[.int .u64 a0_0, .int .u64 a0_1, .string a0_2, .slice A0_3 l0_3.length c0_3] 26 (0, 0)) (by (with_reducible repeat (first | refine kN_ ?_ _ | refine kD_ ?_ | refine kA_ ?_ _)); refine blk_far ?_ NB312_316.out _; (with_reducible repeat (first | refine kN_ ?_ _ | refine kD_ ?_ | refine kA_ ?_ _)); exact BK312.out)) : gb334 ≠ gb312)); have n9_ := a_ ((by rw [hg]; exact Nat.ne_of_lt (blk_lt (g := gb316) (o := .cells #[.int .u64 a0_0, .int .u64 a0_1, .string a0_2, .slice Ao56 y331.length co56] 26 (0, 0)) (by (with_reducible repeat (first | refine kN_ ?_ _ | refine kD_ ?_ | refine kA_ ?_ _)); refine blk_put (cs := #[.int .u64 a0_0, .int .u64 a0_1, .string a0_2, .slice A0_3 l0_3.length c0_3]) ?_ 3 _ rfl; (with_reducible repeat (first | refine kN_ ?_ _ | refine kD_ ?_ | refine kA_ ?_ _)); exact BK316.out)) : gb316 ≠ gb334)); have n10_ := a_ ((by rw [hg]; exact Nat.ne_of_gt (blk_lt (g := gb316) (o := .cells #[.int .u64 a0_0, .int .u64 a0_1, .string a0_2, .slice Ao56 y331.length co56] 26 (0, 0)) (by (with_reducible repeat (first | refine kN_ ?_ _ | refine kD_ ?_ | refine kA_ ?_ _)); refine blk_put (cs := #[.int .u64 a0_0, .int .u64 a0_1, .string a0_2, .slice A0_3 l0_3.length c0_3]) ?_ 3 _ rfl; (with_reducible repeat (first | refine kN_ ?_ _ | refine kD_ ?_ | refine kA_ ?_ _)); exact BK316.out)) : gb334 ≠ gb316)); clear HO333; clear BK312; clear BK316; clear HB; have HO333 := n0_; have BK312 := n1_; have BK316 := n2_; have HB := n3_; have BK334 := n4_; have GW334 := n5_; have GE334 := n6_; have NB312_334 := n7_; have NB334_312 := n8_; have NB316_334 := n9_; have NB334_316 := n10_; clear n0_ n1_ n2_ n3_ n4_ n5_ n6_ n7_ n8_ n9_ n10_; clear hb hbox hg; have hnb60 := NB334_312.out; have hnc60 := NB312_334.out; have hnb61 := NB334_316.out; have hnc61 := NB316_334.out; have hcz62_0 : w59.cell? ⟨gb334, 0, none⟩ = some (.int .u64 0) := (blk_cell BK334.out 0).trans rfl; have hcz62_1 : w59.cell? ⟨gb334, 1, none⟩ = some (.int .u64 0) := (blk_cell BK334.out 1).trans rfl; have hcz62_2 : w59.cell? ⟨gb334, 2, none⟩ = some (.string (⟨#[]⟩ : ByteArray)) := (blk_cell BK334.out 2).trans rfl; have hcz62_3 : w59.cell? ⟨gb334, 3, none⟩ = some (.slice none 0 0) := (blk_cell BK334.out 3).trans rfl; have hfz62_0 := blk_frozen BK334.out 0; have hfz62_1 := blk_frozen BK334.out 1; have hfz62_2 := blk_frozen BK334.out 2; have hfz62_3 := blk_frozen BK334.out 3))
                    have n0_ : Aside0 (Kd.R k42 42 ((((w59.setCell ⟨gb334, 0, none⟩ (.int .u64 a0_0)).setCell ⟨gb334, 1, none⟩ (.int .u64 a0_1)).setCell ⟨gb334, 2, none⟩ (.string a0_2)).setCell ⟨gb334, 3, none⟩ (.slice A0_3 l0_3.length c0_3)) w.heap.size (fun _ => True) (.slice Ao56 y331.length co56) y331) := ⟨by (with_reducible repeat (first | apply Kd.R_alloc | apply Kd.R_drewN | apply Kd.R_drew)); exact Kd.R_mono (Kd.R_far (p := ⟨gb334, 3, none⟩) (Kd.R_far (p := ⟨gb334, 2, none⟩) (Kd.R_far (p := ⟨gb334, 1, none⟩) (Kd.R_far (p := ⟨gb334, 0, none⟩) (Kd.R_types HO333.out BK334.out (by decide)) (fun _ hk => hk.2) (.int .u64 a0_0)) (fun _ hk => hk.2) (.int .u64 a0_1)) (fun _ hk => hk.2) (.string a0_2)) (fun _ hk => hk.2) (.slice A0_3 l0_3.length c0_3)) (fun _ hk => trivial)⟩
                    have n1_ : Aside0 (((((w59.setCell ⟨gb334, 0, none⟩ (.int .u64 a0_0)).setCell ⟨gb334, 1, none⟩ (.int .u64 a0_1)).setCell ⟨gb334, 2, none⟩ (.string a0_2)).setCell ⟨gb334, 3, none⟩ (.slice A0_3 l0_3.length c0_3)).heap[gb312]? = some (.cells #[.int .u64 a0_0, .int .u64 a0_1, .string a0_2, .slice A0_3 l0_3.length c0_3] 26 (0, 0))) := ⟨by (with_reducible repeat (first | refine kN_ ?_ _ | refine kD_ ?_ | refine kA_ ?_ _)); refine blk_far ?_ NB312_334.out _; (with_reducible repeat (first | refine kN_ ?_ _ | refine kD_ ?_ | refine kA_ ?_ _)); refine blk_far ?_ NB312_334.out _; (with_reducible repeat (first | refine kN_ ?_ _ | refine kD_ ?_ | refine kA_ ?_ _)); refine blk_far ?_ NB312_334.out _; (with_reducible repeat (first | refine kN_ ?_ _ | refine kD_ ?_ | refine kA_ ?_ _)); refine blk_far ?_ NB312_334.out _; (with_reducible repeat (first | refine kN_ ?_ _ | refine kD_ ?_ | refine kA_ ?_ _)); exact BK312.out⟩
                    have n2_ : Aside0 (((((w59.setCell ⟨gb334, 0, none⟩ (.int .u64 a0_0)).setCell ⟨gb334, 1, none⟩ (.int .u64 a0_1)).setCell ⟨gb334, 2, none⟩ (.string a0_2)).setCell ⟨gb334, 3, none⟩ (.slice A0_3 l0_3.length c0_3)).heap[gb316]? = some (.cells #[.int .u64 a0_0, .int .u64 a0_1, .string a0_2, .slice Ao56 y331.length co56] 26 (0, 0))) := ⟨by (with_reducible repeat (first | refine kN_ ?_ _ | refine kD_ ?_ | refine kA_ ?_ _)); refine blk_far ?_ NB316_334.out _; (with_reducible repeat (first | refine kN_ ?_ _ | refine kD_ ?_ | refine kA_ ?_ _)); refine blk_far ?_ NB316_334.out _; (with_reducible repeat (first | refine kN_ ?_ _ | refine kD_ ?_ | refine kA_ ?_ _)); refine blk_far ?_ NB316_334.out _; (with_reducible repeat (first | refine kN_ ?_ _ | refine kD_ ?_ | refine kA_ ?_ _)); refine blk_far ?_ NB316_334.out _; (with_reducible repeat (first | refine kN_ ?_ _ | refine kD_ ?_ | refine kA_ ?_ _)); exact BK316.out⟩
                    have n3_ : Aside0 (((((w59.setCell ⟨gb334, 0, none⟩ (.int .u64 a0_0)).setCell ⟨gb334, 1, none⟩ (.int .u64 a0_1)).setCell ⟨gb334, 2, none⟩ (.string a0_2)).setCell ⟨gb334, 3, none⟩ (.slice A0_3 l0_3.length c0_3)).heap[gb334]? = some (.cells #[.int .u64 a0_0, .int .u64 a0_1, .string a0_2, .slice A0_3 l0_3.length c0_3] 26 (0, 0))) := ⟨by (with_reducible repeat (first | refine kN_ ?_ _ | refine kD_ ?_ | refine kA_ ?_ _)); refine blk_put (cs := #[.int .u64 a0_0, .int .u64 a0_1, .string a0_2, .slice none 0 0]) ?_ 3 _ rfl; (with_reducible repeat (first | refine kN_ ?_ _ | refine kD_ ?_ | refine kA_ ?_ _)); refine blk_put (cs := #[.int .u64 a0_0, .int .u64 a0_1, .string (⟨#[]⟩ : ByteArray), .slice none 0 0]) ?_ 2 _ rfl; (with_reducible repeat (first | refine kN_ ?_ _ | refine kD_ ?_ | refine kA_ ?_ _)); refine blk_put (cs := #[.int .u64 a0_0, .int .u64 0, .string (⟨#[]⟩ : ByteArray), .slice none 0 0]) ?_ 1 _ rfl; (with_reducible repeat (first | refine kN_ ?_ _ | refine kD_ ?_ | refine kA_ ?_ _)); refine blk_put (cs := #[.int .u64 0, .int .u64 0, .string (⟨#[]⟩ : ByteArray), .slice none 0 0]) ?_ 0 _ rfl; (with_reducible repeat (first | refine kN_ ?_ _ | refine kD_ ?_ | refine kA_ ?_ _)); exact BK334.out⟩
                    have n4_ : Aside0 (Below w.heap.size w ((((w59.setCell ⟨gb334, 0, none⟩ (.int .u64 a0_0)).setCell ⟨gb334, 1, none⟩ (.int .u64 a0_1)).setCell ⟨gb334, 2, none⟩ (.string a0_2)).setCell ⟨gb334, 3, none⟩ (.slice A0_3 l0_3.length c0_3))) := ⟨by repeat (first | (with_reducible first | exact HB.out | apply bA_ | apply bN_ | apply b1_ | refine bS_ ?_ GE312.out | refine bS_ ?_ GE316.out | refine bS_ ?_ GE334.out) | exact HB.out)⟩
                    (try clear HO333)
                    (try clear BK312)
                    (try clear BK316)
                    (try clear BK334)
                    (try clear HB)
                    generalize ((((w59.setCell ⟨gb334, 0, none⟩ (.int .u64 a0_0)).setCell ⟨gb334, 1, none⟩ (.int .u64 a0_1)).setCell ⟨gb334, 2, none⟩ (.string a0_2)).setCell ⟨gb334, 3, none⟩ (.slice A0_3 l0_3.length c0_3)) = w63 at n0_ n1_ n2_ n3_ n4_ ⊢
                    have HO333 := n0_
                    have BK312 := n1_
                    have BK316 := n2_
                    have BK334 := n3_
                    have HB := n4_
                    clear n0_ n1_ n2_ n3_ n4_
                    have n0_ := a_ (Kd.R_drew HO333.out)
                    have n1_ := a_ (blk_drew BK312.out)
                    have n2_ := a_ (blk_drew BK316.out)
                    have n3_ := a_ (blk_drew BK334.out)
                    have n4_ := a_ (below_drew1 HB.out)
                    clear HO333
                    clear BK312
                    clear BK316
                    clear BK334
                    clear HB
                    have HO333 := n0_
                    have BK312 := n1_
                    have BK316 := n2_
                    have BK334 := n3_
                    have HB := n4_
                    clear n0_ n1_ n2_ n3_ n4_
                    have q65 : ((ji20) : Int) ≤ ((l0_3.length : Int) : Int) := of_decide_eq_true (by first | (with_reducible assumption) | assumption)
                    obtain ⟨i065, hi065, _, hsz65, _⟩ := info_parts info42
                    have hroom65 : l0_3.length ≤ c0_3 := HC0_3.out
                    have hC65 : Kd.C k42 _ A0_3 l0_3.length l0_3 := HR0_3.out
                    have hcut65 := cut_to (P := Tryd.prog) 24 42 .i64 Tryd.underlying24 hi065 A0_3 l0_3.length c0_3 (ji20) (of_decide_eq_true (by first | (with_reducible assumption) | assumption)) q65 hroom65
                    have hr65 := Kd.C_take (m := ((ji20) : Int).toNat) hC65 (by omega)
                    have hy65 : y338.length = ((ji20) : Int).toNat := (by rw [Ny338.out, List.length_take]; omega)
                    rw [← Ny338.out] at hr65
                    rw [← hy65] at hcut65
                    have HR341 := a_ hr65
                    have HC341 := a_ (show y338.length ≤ c0_3 from by omega)
                    clear hr65 hC65 hroom65 hi065 hsz65
                    have KY65 := a_ hy65
                    clear hy65
                    replace q65 := eq_true q65
                    have q66 : ((ji30) : Int) ≤ ((l0_3.length : Int) : Int) := of_decide_eq_true (by first | (with_reducible assumption) | assumption)
                    obtain ⟨i066, hi066, _, hsz66, _⟩ := info_parts info42
                    have hroom66 : l0_3.length ≤ c0_3 := HC0_3.out
                    have hC66 : Kd.C k42 _ A0_3 l0_3.length l0_3 := HR0_3.out
                    have q066 : (0 : Int) ≤ ((ji30) : Int) := of_decide_eq_true (by first | (with_reducible assumption) | assumption)
                    have hcut66 := cut_from (P := Tryd.prog) 24 42 .i64 Tryd.underlying24 hi066 3 hsz66 A0_3 l0_3.length c0_3 (ji30) q066 q66
                    have hr66 := Kd.C_drop (m := ((ji30) : Int).toNat) (c := c0_3) hC66 (by omega) hroom66
                    obtain ⟨A66, hA66⟩ : ∃ A1, A1 = (if c0_3 = ((ji30) : Int).toNat then A0_3 else (A0_3 : Option Addr).map (·.add (((ji30) : Int).toNat * 3))) := ⟨_, rfl⟩
                    obtain ⟨c66, hc66⟩ : ∃ c1, c1 = c0_3 - ((ji30) : Int).toNat := ⟨_, rfl⟩
                    have hy66 : y345.length = l0_3.length - ((ji30) : Int).toNat := (by rw [Ny345.out, List.length_drop] <;> omega)
                    rw [show (l0_3).drop ((ji30) : Int).toNat = y345 from Ny345.out.symm] at hr66
                    replace hr66 : Kd.C k42 _ A66 y345.length y345 := (by rw [hA66]; exact hr66)
                    rw [← hy66, ← hA66, ← hc66] at hcut66
                    have HR348 := a_ hr66
                    have HC348 := a_ (show y345.length ≤ c66 from by rw [hy66, hc66]; exact Nat.sub_le_sub_right hroom66 _)
                    clear hr66 hC66 hroom66 hi066 hsz66 hc66
                    have KY66 := a_ hy66
                    have KA66 := a_ hA66
                    clear hy66 hA66
                    replace q66 := eq_true q66
                    refine start_ (n := 14) (S := fun w' => w'.cell? ⟨gb312, 0, none⟩ = some (.int .u64 a0_0) ∧ w'.cell? ⟨gb312, 1, none⟩ = some (.int .u64 a0_1) ∧ w'.cell? ⟨gb312, 2, none⟩ = some (.string a0_2) ∧ w'.cell? ⟨gb312, 3, none⟩ = some (.slice A0_3 l0_3.length c0_3)) (ds := []) #[false, false, false, false, false, false, false, false, false, false, false, false, false, false] (by kernel_rfl) rfl rfl ⟨(blk_cell BK312.out 0).trans rfl, (blk_cell BK312.out 1).trans rfl, (blk_cell BK312.out 2).trans rfl, (blk_cell BK312.out 3).trans rfl⟩ (fun hHeld => ?_); refine with_tabW cambistlaw12_JournalLegs.tab10 cambistlaw12_JournalLegs.bits10 (fun HT_ HW_ => ?_)
                    generalize w63.drew = w64 at HO333 BK312 BK316 BK334 HB HR341 HR348 hHeld ⊢
                    refine pure_ (i := 1) (N := some 46) (v := ?_) (a' := ?_) (fl_ 14 2) rfl rfl (any_of HT_.out (by kernel_rfl)) (fun _ _ _ h => h) (Or.inl ⟨by rfl, ?_⟩) ?_ ?_
                    rotate_left
                    ·intro w'
                     go_simp
                     with_reducible rfl
                    rotate_left
                    ·simp only [Act.put, sT_, s0_, sS_, i64_w, i32_w]
                     rfl
                    refine pure_ (i := 3) (N := some 48) (v := ?_) (a' := ?_) (fl_ 14 10) rfl rfl (any_of HT_.out (by kernel_rfl)) (fun _ _ _ h => h) (Or.inl ⟨by rfl, ?_⟩) ?_ ?_
                    rotate_left
                    ·intro w'
                     go_simp
                     with_reducible rfl
                    rotate_left
                    ·simp only [Act.put, sT_, s0_, sS_, i64_w, i32_w]
                     rfl
                    refine pure_ (i := 6) (N := some 51) (v := ?_) (a' := ?_) (fl_ 14 74) rfl rfl (any_of HT_.out (by kernel_rfl)) (fun _ _ _ h => h) (Or.inl ⟨by rfl, ?_⟩) ?_ ?_
                    rotate_left
                    ·intro w'
                     go_simp
                     with_reducible rfl
                    rotate_left
                    ·simp only [Act.put, sT_, s0_, sS_, i64_w, i32_w]
                     rfl
                    refine pure_ (i := 8) (N := some 53) (v := ?_) (a' := ?_) (fl_ 14 330) rfl rfl (any_of HT_.out (by kernel_rfl)) (fun _ _ _ h => h) (Or.inl ⟨by rfl, ?_⟩) ?_ ?_
                    rotate_left
                    ·intro w'
                     go_simp
                     with_reducible rfl
                    rotate_left
                    ·simp only [Act.put, sT_, s0_, sS_, i64_w, i32_w]
                     rfl
                    refine pure_ (i := 9) (N := some 54) (v := ?_) (a' := ?_) (fl_ 14 842) rfl rfl (any_of HT_.out (by kernel_rfl)) (fun _ _ _ h => h) (Or.inl ⟨by rfl, ?_⟩) ?_ ?_
                    rotate_left
                    ·intro w'
                     go_simp
                     with_reducible rfl
                    rotate_left
                    ·simp only [Act.put, sT_, s0_, sS_, i64_w, i32_w]
                     rfl
                    refine take_ (i := 2) (N := some 47) (v := ?_) (a' := ?_) (fl_ 14 846) rfl rfl (take_ofW HT_.out HW_.out (by kernel_rfl)) (fun _ _ _ h => h) (Or.inl ⟨by rfl, ?_⟩) hHeld ?_ ?_
                    rotate_left
                    ·rintro w' ⟨s0, s1, s2, s3⟩
                     go_simp
                     with_reducible rfl
                    rotate_left
                    ·simp only [Act.put, sT_, s0_, sS_, i64_w, i32_w]
                     rfl
                    refine pure_ (i := 4) (N := some 49) (v := ?_) (a' := ?_) (fl_ 14 862) rfl rfl (any_of HT_.out (by kernel_rfl)) (fun _ _ _ h => h) (Or.inl ⟨by rfl, ?_⟩) ?_ ?_
                    rotate_left
                    ·intro w'
                     go_simp
                     with_reducible rfl
                    rotate_left
                    ·simp only [Act.put, sT_, s0_, sS_, i64_w, i32_w]
                     rfl
                    refine take_ (i := 7) (N := some 52) (v := ?_) (a' := ?_) (fl_ 14 990) rfl rfl (take_ofW HT_.out HW_.out (by kernel_rfl)) (fun _ _ _ h => h) (Or.inl ⟨by rfl, ?_⟩) hHeld ?_ ?_
                    rotate_left
                    ·rintro w' ⟨s0, s1, s2, s3⟩
                     go_simp
                     with_reducible rfl
                    rotate_left
                    ·simp only [Act.put, sT_, s0_, sS_, i64_w, i32_w]
                     rfl
                    refine pure_ (i := 10) (N := some 55) (v := ?_) (a' := ?_) (fl_ 14 2014) rfl rfl (any_of HT_.out (by kernel_rfl)) (fun _ _ _ h => h) (Or.inl ⟨by rfl, ?_⟩) ?_ ?_
                    rotate_left
                    ·intro w'
                     go_simp
                     with_reducible rfl
                    rotate_left
                    ·simp only [Act.put, sT_, s0_, sS_, i64_w, i32_w]
                     rfl
                    refine one_ (i := 0) (N := some 45) (fl_ 14 2015) rfl rfl (one_of HT_.out (by kernel_rfl)) (by decide) (fun K hK => ?_)
                    refine Kd.R_lit_step k42 _ 42 ?hg (N := 45) ?hd (xs := ([] : List (S42))) (inner := []) (ok := fun _ => True) (okp := fun _ => True) ?hr ?hp (fun _ hk => hk) trivial (Below.refl _ _) (Nat.le_refl _) (by simp) ?_; (case hd => rfl); (case hg => rfl); (case hr => first | (go_simp; done) | (go_simp; rfl)); (case hp => exact (Reps.none _ _))
                    intro v336 w67 ho68 hb hg_ hnew_
                    clear hg_ hnew_
                    (first | rw [← Ny335.out] at ho68 | (simp only [Int.reduceToNat] at ho68; rw [← Ny335.out] at ho68))
                    have n0_ := a_ (Kd.R_elder' (by (with_reducible repeat (first | apply Kd.R_alloc | apply Kd.R_drewN | apply Kd.R_drew)); exact HO333.out) (Kd.R_base ho68) hb)
                    have n1_ := a_ (Kd.R_lower (Kd.R_new' ho68 (Kd.R_lt (by (with_reducible repeat (first | apply Kd.R_alloc | apply Kd.R_drewN | apply Kd.R_drew)); exact HO333.out))) (below_size (by repeat (first | (with_reducible first | exact HB.out | apply bA_ | apply bN_ | apply b1_ | refine bS_ ?_ GE312.out | refine bS_ ?_ GE316.out | refine bS_ ?_ GE334.out) | exact HB.out))))
                    have n2_ := a_ (blk_below (g := gb312) (o := .cells #[.int .u64 a0_0, .int .u64 a0_1, .string a0_2, .slice A0_3 l0_3.length c0_3] 26 (0, 0)) (by (with_reducible repeat (first | refine kN_ ?_ _ | refine kD_ ?_ | refine kA_ ?_ _)); exact BK312.out) hb)
                    have n3_ := a_ (blk_below (g := gb316) (o := .cells #[.int .u64 a0_0, .int .u64 a0_1, .string a0_2, .slice Ao56 y331.length co56] 26 (0, 0)) (by (with_reducible repeat (first | refine kN_ ?_ _ | refine kD_ ?_ | refine kA_ ?_ _)); exact BK316.out) hb)
                    have n4_ := a_ (blk_below (g := gb334) (o := .cells #[.int .u64 a0_0, .int .u64 a0_1, .string a0_2, .slice A0_3 l0_3.length c0_3] 26 (0, 0)) (by (with_reducible repeat (first | refine kN_ ?_ _ | refine kD_ ?_ | refine kA_ ?_ _)); exact BK334.out) hb)
                    have n5_ := a_ (below_step (by repeat (first | (with_reducible first | exact HB.out | apply bA_ | apply bN_ | apply b1_ | refine bS_ ?_ GE312.out | refine bS_ ?_ GE316.out | refine bS_ ?_ GE334.out) | exact HB.out)) hb)
                    clear HO333
                    clear BK312
                    clear BK316
                    clear BK334
                    clear HB
                    have HO333 := n0_
                    have HO337 := n1_
                    have BK312 := n2_
                    have BK316 := n3_
                    have BK334 := n4_
                    have HB := n5_
                    clear n0_ n1_ n2_ n3_ n4_ n5_
                    clear hb ho68
                    refine hK.out _ _ ⟨(blk_cell BK312.out 0).trans rfl, (blk_cell BK312.out 1).trans rfl, (blk_cell BK312.out 2).trans rfl, (blk_cell BK312.out 3).trans rfl⟩ (fun hHeld => ?_)
                    clear hK K
                    refine norm_ (a' := ?_) ?_ ?_
                    rotate_left
                    ·show Act.put _ (some 45) _ = _
                     simp only [Act.put, sT_, s0_, sS_, i64_w, i32_w]
                     rfl
                    refine one_ (i := 5) (N := some 50) (fl_ 14 2047) rfl rfl (one_of HT_.out (by kernel_rfl)) (by decide) (fun K hK => ?_)
                    refine Kd.R_append_rows_step k42 (w0 := w) w.heap.size (by rfl) (.tmp 45) (.tmp 49) 24 42 (.agg #[(.string ⟨#[]⟩), (.string ⟨#[]⟩), (.int .i64 0)]) 40 rfl Tryd.underlying24 info42 rfl (by decide) (by omega) v336 y335 y338 _ _ _ (fun k_ => some k_ ≠ (.slice Ao56 y331.length co56 : Value).ownBlock) (fun _ => False) rfl rfl ?aO ?aR (fun _ _ h => h) (fun _ h => h.elim) ?aF ?aB ?aS ?aL ?_
                    (case aR => rw [Ey338_.out]; repeat (first | exact (Kd.C_below HR341.out HB.out) | (with_reducible refine Kd.C_alloc ?_ _) | (with_reducible refine Kd.C_drewN ?_ _) | (with_reducible refine Kd.C_drew ?_)))
                    (case aB => exact (by repeat (first | (with_reducible first | exact HB.out | apply bA_ | apply bN_ | apply b1_ | refine bS_ ?_ GE312.out | refine bS_ ?_ GE316.out | refine bS_ ?_ GE334.out) | exact HB.out)))
                    (case aF => exact (fun k_ hk => Kd.fresh' (Kd.R_lt (by (with_reducible repeat (first | apply Kd.R_alloc | apply Kd.R_drewN | apply Kd.R_drew)); exact HO333.out)) k_ hk))
                    (case aO => exact (by (with_reducible repeat (first | apply Kd.R_alloc | apply Kd.R_drewN | apply Kd.R_drew)); exact Kd.R_mono HO337.out (fun _ hk => hk.2)))
                    (case aS => exact (below_size (by repeat (first | (with_reducible first | exact HB.out | apply bA_ | apply bN_ | apply b1_ | refine bS_ ?_ GE312.out | refine bS_ ?_ GE316.out | refine bS_ ?_ GE334.out) | exact HB.out))))
                    (case aL => have := LMc29.out; have := Ey338_.out; omega)
                    intro v343 w69 ho hb hg hat
                    rw [← Ny342.out] at ho
                    have n0_ := a_ (blk_grown (g := gb312) (o := .cells #[.int .u64 a0_0, .int .u64 a0_1, .string a0_2, .slice A0_3 l0_3.length c0_3] 26 (0, 0)) (by (with_reducible repeat (first | refine kN_ ?_ _ | refine kD_ ?_ | refine kA_ ?_ _)); exact BK312.out) hg (Kd.R_ne HO337.out BK312.out (by decide)))
                    have n1_ := a_ (blk_grown (g := gb316) (o := .cells #[.int .u64 a0_0, .int .u64 a0_1, .string a0_2, .slice Ao56 y331.length co56] 26 (0, 0)) (by (with_reducible repeat (first | refine kN_ ?_ _ | refine kD_ ?_ | refine kA_ ?_ _)); exact BK316.out) hg (Kd.R_ne HO337.out BK316.out (by decide)))
                    have n2_ := a_ (Kd.R_after (ok := (fun _ => True)) (by (with_reducible repeat (first | apply Kd.R_alloc | apply Kd.R_drewN | apply Kd.R_drew)); exact HO333.out) hg hat)
                    have n3_ := a_ (blk_grown (g := gb334) (o := .cells #[.int .u64 a0_0, .int .u64 a0_1, .string a0_2, .slice A0_3 l0_3.length c0_3] 26 (0, 0)) (by (with_reducible repeat (first | refine kN_ ?_ _ | refine kD_ ?_ | refine kA_ ?_ _)); exact BK334.out) hg (Kd.R_ne HO337.out BK334.out (by decide)))
                    have n4_ := a_ (hb)
                    have n5_ := a_ (ho)
                    clear BK312
                    clear BK316
                    clear HO333
                    clear BK334
                    clear HB
                    clear HO337
                    have BK312 := n0_
                    have BK316 := n1_
                    have HO333 := n2_
                    have BK334 := n3_
                    have HB := n4_
                    have HO344 := n5_
                    clear n0_ n1_ n2_ n3_ n4_ n5_
                    clear ho hb hg hat
                    refine hK.out _ _ ⟨(blk_cell BK312.out 0).trans rfl, (blk_cell BK312.out 1).trans rfl, (blk_cell BK312.out 2).trans rfl, (blk_cell BK312.out 3).trans rfl⟩ (fun hHeld => ?_)
                    clear hK K
                    refine norm_ (a' := ?_) ?_ ?_
                    rotate_left
                    ·show Act.put _ (some 50) _ = _
                     simp only [Act.put, sT_, s0_, sS_, i64_w, i32_w]
                     rfl
                    refine one_ (i := 11) (N := some 56) (fl_ 14 4095) rfl rfl (one_of HT_.out (by kernel_rfl)) (by decide) (fun K hK => ?_)
                    refine Kd.R_append_rows_step k42 (w0 := w) w.heap.size (by rfl) (.tmp 50) (.tmp 55) 24 42 (.agg #[(.string ⟨#[]⟩), (.string ⟨#[]⟩), (.int .i64 0)]) 40 rfl Tryd.underlying24 info42 rfl (by decide) (by omega) v343 y342 y345 _ _ _ (fun k_ => some k_ ≠ (.slice Ao56 y331.length co56 : Value).ownBlock) (fun _ => False) rfl rfl ?aO ?aR (fun _ _ h => h) (fun _ h => h.elim) ?aF ?aB ?aS ?aL ?_
                    (case aR => repeat (first | exact (Kd.C_below HR348.out HB.out) | (with_reducible refine Kd.C_alloc ?_ _) | (with_reducible refine Kd.C_drewN ?_ _) | (with_reducible refine Kd.C_drew ?_)))
                    (case aB => exact (by repeat (first | (with_reducible first | exact HB.out | apply bA_ | apply bN_ | apply b1_ | refine bS_ ?_ GE312.out | refine bS_ ?_ GE316.out | refine bS_ ?_ GE334.out) | exact HB.out)))
                    (case aF => exact (fun k_ hk => Kd.fresh' (Kd.R_lt (by (with_reducible repeat (first | apply Kd.R_alloc | apply Kd.R_drewN | apply Kd.R_drew)); exact HO333.out)) k_ hk))
                    (case aO => exact (by (with_reducible repeat (first | apply Kd.R_alloc | apply Kd.R_drewN | apply Kd.R_drew)); exact HO344.out))
                    (case aS => exact (below_size (by repeat (first | (with_reducible first | exact HB.out | apply bA_ | apply bN_ | apply b1_ | refine bS_ ?_ GE312.out | refine bS_ ?_ GE316.out | refine bS_ ?_ GE334.out) | exact HB.out))))
                    (case aL => have := LMc33.out; omega)
                    intro v350 w70 ho hb hg hat
                    rw [← Ny349.out] at ho
                    have n0_ := a_ (blk_grown (g := gb312) (o := .cells #[.int .u64 a0_0, .int .u64 a0_1, .string a0_2, .slice A0_3 l0_3.length c0_3] 26 (0, 0)) (by (with_reducible repeat (first | refine kN_ ?_ _ | refine kD_ ?_ | refine kA_ ?_ _)); exact BK312.out) hg (Kd.R_ne HO344.out BK312.out (by decide)))
                    have n1_ := a_ (blk_grown (g := gb316) (o := .cells #[.int .u64 a0_0, .int .u64 a0_1, .string a0_2, .slice Ao56 y331.length co56] 26 (0, 0)) (by (with_reducible repeat (first | refine kN_ ?_ _ | refine kD_ ?_ | refine kA_ ?_ _)); exact BK316.out) hg (Kd.R_ne HO344.out BK316.out (by decide)))
                    have n2_ := a_ (Kd.R_after (ok := (fun _ => True)) (by (with_reducible repeat (first | apply Kd.R_alloc | apply Kd.R_drewN | apply Kd.R_drew)); exact HO333.out) hg hat)
                    have n3_ := a_ (blk_grown (g := gb334) (o := .cells #[.int .u64 a0_0, .int .u64 a0_1, .string a0_2, .slice A0_3 l0_3.length c0_3] 26 (0, 0)) (by (with_reducible repeat (first | refine kN_ ?_ _ | refine kD_ ?_ | refine kA_ ?_ _)); exact BK334.out) hg (Kd.R_ne HO344.out BK334.out (by decide)))
                    have n4_ := a_ (hb)
                    have n5_ := a_ (ho)
                    clear BK312
                    clear BK316
                    clear HO333
                    clear BK334
                    clear HB
                    clear HO344
                    have BK312 := n0_
                    have BK316 := n1_
                    have HO333 := n2_
                    have BK334 := n3_
                    have HB := n4_
                    have HO351 := n5_
                    clear n0_ n1_ n2_ n3_ n4_ n5_
                    clear ho hb hg hat
                    obtain ⟨Ao71, co71, eo71⟩ := Kd.R_slice HO351.out
                    (first | subst eo71 | (injection eo71 with f1_ f2_ f3_; have f4_ := f1_.symm; have f5_ := f3_.symm; clear f1_ f2_ f3_; subst f4_; subst f5_))
                    refine hK.out _ _ ⟨(blk_cell BK312.out 0).trans rfl, (blk_cell BK312.out 1).trans rfl, (blk_cell BK312.out 2).trans rfl, (blk_cell BK312.out 3).trans rfl⟩ (fun hHeld => ?_)
                    clear hK K
                    refine norm_ (a' := ?_) ?_ ?_
                    rotate_left
                    ·show Act.put _ (some 56) _ = _
                     simp only [Act.put, sT_, s0_, sS_, i64_w, i32_w]
                     rfl
                    refine pure_ (i := 12) (N := some 57) (v := ?_) (a' := ?_) (fl_ 14 8191) rfl rfl (any_of HT_.out (by kernel_rfl)) (fun _ _ _ h => h) (Or.inl ⟨by rfl, ?_⟩) ?_ ?_
                    rotate_left
                    ·intro w'
                     go_simp
                     with_reducible rfl
                    rotate_left
                    ·simp only [Act.put, sT_, s0_, sS_, i64_w, i32_w]
                     rfl
                    refine one_ (i := 13) (N := none) (fl_ 14 16383) rfl rfl (one_of HT_.out (by kernel_rfl)) (by decide) (fun K hK => ?_)
                    have hs72 : w70.cell? ⟨gb334, 3, none⟩ = some (.slice A0_3 l0_3.length c0_3) := (blk_cell BK334.out 3).trans rfl
                    have hfs72 := blk_frozen BK334.out 3
                    have hns72_0 := NB312_334.out
                    have hns72_1 := NB316_334.out
                    have hms72_0 := NB334_312.out
                    have hms72_1 := NB334_316.out
                    refine skip_ (w1 := ?_) (by rfl) rfl ?_ ?_
                    rotate_left
                    ·go_simp
                     rfl
                    refine hK.out _ _ ⟨((cell_far (p := ⟨gb334, _, none⟩) NB312_334.out _).trans (hHeld.1)), ((cell_far (p := ⟨gb334, _, none⟩) NB312_334.out _).trans (hHeld.2.1)), ((cell_far (p := ⟨gb334, _, none⟩) NB312_334.out _).trans (hHeld.2.2.1)), ((cell_far (p := ⟨gb334, _, none⟩) NB312_334.out _).trans (hHeld.2.2.2))⟩ (fun hHeld => ?_)
                    clear hK K
                    refine done_ (done_of HT_.out (by kernel_rfl)) ?_
                    have hcz73_0 : w70.cell? ⟨gb312, 0, none⟩ = some (.int .u64 a0_0) := (blk_cell BK312.out 0).trans rfl
                    have hcz73_1 : w70.cell? ⟨gb312, 1, none⟩ = some (.int .u64 a0_1) := (blk_cell BK312.out 1).trans rfl
                    have hcz73_2 : w70.cell? ⟨gb312, 2, none⟩ = some (.string a0_2) := (blk_cell BK312.out 2).trans rfl
                    have hcz73_3 : w70.cell? ⟨gb312, 3, none⟩ = some (.slice A0_3 l0_3.length c0_3) := (blk_cell BK312.out 3).trans rfl
                    have hfz73_0 := blk_frozen BK312.out 0
                    have hfz73_1 := blk_frozen BK312.out 1
                    have hfz73_2 := blk_frozen BK312.out 2
                    have hfz73_3 := blk_frozen BK312.out 3
                    try go_wp2_with (first | ((with_reducible refine gate_dst (N := 10) rfl ?_); refine box_event ?hg (N := 10) ?hd (cs := #[.int .u64 0, .int .u64 0, .string (⟨#[]⟩ : ByteArray), .slice none 0 0]) (t := 26) ?hr ?_; (case hd => rfl); (case hg => rfl); (case hr => first | (go_simp; done) | (go_simp; rfl)); intro gb352 hg w74 hbox hb; have n0_ := a_ (Kd.R_below (by (with_reducible repeat (first | apply Kd.R_alloc | apply Kd.R_drewN | apply Kd.R_drew)); exact (Kd.R_mono (Kd.R_far (p := ⟨gb334, 3, none⟩) (Kd.R_types HO333.out BK334.out (by decide)) (fun _ hk => hk.2) (.slice Ao71 y349.length co71)) (fun _ h_ => h_.1))) hb); have n1_ := a_ (Kd.R_below (by (with_reducible repeat (first | apply Kd.R_alloc | apply Kd.R_drewN | apply Kd.R_drew)); exact (Kd.R_mono (Kd.R_far (p := ⟨gb334, 3, none⟩) (Kd.R_types HO351.out BK334.out (by decide)) (fun _ hk => hk.2) (.slice Ao71 y349.length co71)) (fun _ h_ => h_.1))) hb); have n2_ := a_ (blk_below (g := gb312) (o := .cells #[.int .u64 a0_0, .int .u64 a0_1, .string a0_2, .slice A0_3 l0_3.length c0_3] 26 (0, 0)) (by (with_reducible repeat (first | refine kN_ ?_ _ | refine kD_ ?_ | refine kA_ ?_ _)); refine blk_far ?_ NB312_334.out _; (with_reducible repeat (first | refine kN_ ?_ _ | refine kD_ ?_ | refine kA_ ?_ _)); exact BK312.out) hb); have n3_ := a_ (blk_below (g := gb316) (o := .cells #[.int .u64 a0_0, .int .u64 a0_1, .string a0_2, .slice Ao56 y331.length co56] 26 (0, 0)) (by (with_reducible repeat (first | refine kN_ ?_ _ | refine kD_ ?_ | refine kA_ ?_ _)); refine blk_far ?_ NB316_334.out _; (with_reducible repeat (first | refine kN_ ?_ _ | refine kD_ ?_ | refine kA_ ?_ _)); exact BK316.out) hb); have n4_ := a_ (blk_below (g := gb334) (o := .cells #[.int .u64 a0_0, .int .u64 a0_1, .string a0_2, .slice Ao71 y349.length co71] 26 (0, 0)) (by (with_reducible repeat (first | refine kN_ ?_ _ | refine kD_ ?_ | refine kA_ ?_ _)); refine blk_put (cs := #[.int .u64 a0_0, .int .u64 a0_1, .string a0_2, .slice A0_3 l0_3.length c0_3]) ?_ 3 _ rfl; (with_reducible repeat (first | refine kN_ ?_ _ | refine kD_ ?_ | refine kA_ ?_ _)); exact BK334.out) hb); have n5_ := a_ (below_step (by repeat (first | (with_reducible first | exact HB.out | apply bA_ | apply bN_ | apply b1_ | refine bS_ ?_ GE312.out | refine bS_ ?_ GE316.out | refine bS_ ?_ GE334.out) | exact HB.out)) hb); have n6_ := a_ (hbox); have n7_ := a_ ((by rw [hg]; exact (below_size (by repeat (first | (with_reducible first | exact HB.out | apply bA_ | apply bN_ | apply b1_ | refine bS_ ?_ GE312.out | refine bS_ ?_ GE316.out | refine bS_ ?_ GE334.out) | exact HB.out))) : w.heap.size ≤ gb352)); have n8_ := a_ ((by rw [hg]; exact (below_size (by repeat (first | (with_reducible first | exact HB.out | apply bA_ | apply bN_ | apply b1_ | refine bS_ ?_ GE312.out | refine bS_ ?_ GE316.out | refine bS_ ?_ GE334.out) | exact HB.out))) : w.heap.size ≤ gb352)); have n9_ := a_ ((by rw [hg]; exact Nat.ne_of_lt (blk_lt (g := gb312) (o := .cells #[.int .u64 a0_0, .int .u64 a0_1, .string a0_2, .slice A0_3 l0_3.length c0_3] 26 (0, 0)) (by (with_reducible repeat (first | refine kN_ ?_ _ | refine kD_ ?_ | refine kA_ ?_ _)); refine blk_far ?_ NB312_334.out _; (with_reducible repeat (first | refine kN_ ?_ _ | refine kD_ ?_ | refine kA_ ?_ _)); exact BK312.out)) : gb312 ≠ gb352)); have n10_ := a_ ((by rw [hg]; exact Nat.ne_of_gt (blk_lt (g := gb312) (o := .cells #[.int .u64 a0_0, .int .u64 a0_1, .string a0_2, .slice A0_3 l0_3.length c0_3] 26 (0, 0)) (by (with_reducible repeat (first | refine kN_ ?_ _ | refine kD_ ?_ | refine kA_ ?_ _)); refine blk_far ?_ NB312_334.out _; (with_reducible repeat (first | refine kN_ ?_ _ | refine kD_ ?_ | refine kA_ ?_ _)); exact BK312.out)) : gb352 ≠ gb312)); have n11_ := a_ ((by rw [hg]; exact Nat.ne_of_lt (blk_lt (g := gb316) (o := .cells #[.int .u64 a0_0, .int .u64 a0_1, .string a0_2, .slice Ao56 y331.length co56] 26 (0, 0)) (by (with_reducible repeat (first | refine kN_ ?_ _ | refine kD_ ?_ | refine kA_ ?_ _)); refine blk_far ?_ NB316_334.out _; (with_reducible repeat (first | refine kN_ ?_ _ | refine kD_ ?_ | refine kA_ ?_ _)); exact BK316.out)) : gb316 ≠ gb352)); have n12_ := a_ ((by rw [hg]; exact Nat.ne_of_gt (blk_lt (g := gb316) (o := .cells #[.int .u64 a0_0, .int .u64 a0_1, .string a0_2, .slice Ao56 y331.length co56] 26 (0, 0)) (by (with_reducible repeat (first | refine kN_ ?_ _ | refine kD_ ?_ | refine kA_ ?_ _)); refine blk_far ?_ NB316_334.out _; (with_reducible repeat (first | refine kN_ ?_ _ | refine kD_ ?_ | refine kA_ ?_ _)); exact BK316.out)) : gb352 ≠ gb316)); have n13_ := a_ ((by rw [hg]; exact Nat.ne_of_lt (blk_lt (g := gb334) (o := .cells #[.int .u64 a0_0, .int .u64 a0_1, .string a0_2, .slice Ao71 y349.length co71] 26 (0, 0)) (by (with_reducible repeat (first | refine kN_ ?_ _ | refine kD_ ?_ | refine kA_ ?_ _)); refine blk_put (cs := #[.int .u64 a0_0, .int .u64 a0_1, .string a0_2, .slice A0_3 l0_3.length c0_3]) ?_ 3 _ rfl; (with_reducible repeat (first | refine kN_ ?_ _ | refine kD_ ?_ | refine kA_ ?_ _)); exact BK334.out)) : gb334 ≠ gb352)); have n14_ := a_ ((by rw [hg]; exact Nat.ne_of_gt (blk_lt (g := gb334) (o := .cells #[.int .u64 a0_0, .int .u64 a0_1, .string a0_2, .slice Ao71 y349.length co71] 26 (0, 0)) (by (with_reducible repeat (first | refine kN_ ?_ _ | refine kD_ ?_ | refine kA_ ?_ _)); refine blk_put (cs := #[.int .u64 a0_0, .int .u64 a0_1, .string a0_2, .slice A0_3 l0_3.length c0_3]) ?_ 3 _ rfl; (with_reducible repeat (first | refine kN_ ?_ _ | refine kD_ ?_ | refine kA_ ?_ _)); exact BK334.out)) : gb352 ≠ gb334)); clear HO333; clear HO351; clear BK312; clear BK316; clear BK334; clear HB; have HO333 := n0_; have HO351 := n1_; have BK312 := n2_; have BK316 := n3_; have BK334 := n4_; have HB := n5_; have BK352 := n6_; have GW352 := n7_; have GE352 := n8_; have NB312_352 := n9_; have NB352_312 := n10_; have NB316_352 := n11_; have NB352_316 := n12_; have NB334_352 := n13_; have NB352_334 := n14_; clear n0_ n1_ n2_ n3_ n4_ n5_ n6_ n7_ n8_ n9_ n10_ n11_ n12_ n13_ n14_; clear hb hbox hg; have hnb75 := NB352_312.out; have hnc75 := NB312_352.out; have hnb76 := NB352_316.out; have hnc76 := NB316_352.out; have hnb77 := NB352_334.out; have hnc77 := NB334_352.out; have hcz78_0 : w74.cell? ⟨gb352, 0, none⟩ = some (.int .u64 0) := (blk_cell BK352.out 0).trans rfl; have hcz78_1 : w74.cell? ⟨gb352, 1, none⟩ = some (.int .u64 0) := (blk_cell BK352.out 1).trans rfl; have hcz78_2 : w74.cell? ⟨gb352, 2, none⟩ = some (.string (⟨#[]⟩ : ByteArray)) := (blk_cell BK352.out 2).trans rfl; have hcz78_3 : w74.cell? ⟨gb352, 3, none⟩ = some (.slice none 0 0) := (blk_cell BK352.out 3).trans rfl; have hfz78_0 := blk_frozen BK352.out 0; have hfz78_1 := blk_frozen BK352.out 1; have hfz78_2 := blk_frozen BK352.out 2; have hfz78_3 := blk_frozen BK352.out 3) | ((with_reducible refine gate_dst (N := 59) rfl ?_); refine Kd.R_lit k42 _ 42 ?hg (N := 59) ?hd (xs := ([] : List (S42))) (inner := []) (ok := fun _ => True) (okp := fun _ => True) ?hr ?hp (fun _ hk => hk) trivial (Below.refl _ _) (Nat.le_refl _) (by simp) ?_; (case hd => rfl); (case hg => rfl); (case hr => first | (go_simp; done) | (go_simp; rfl)); (case hp => exact (Reps.none _ _)); intro v354 w79 ho80 hb hg_ hnew_; clear hg_ hnew_; (first | rw [← Ny353.out] at ho80 | (simp only [Int.reduceToNat] at ho80; rw [← Ny353.out] at ho80)); have n0_ := a_ (Kd.R_elder' (by (with_reducible repeat (first | apply Kd.R_alloc | apply Kd.R_drewN | apply Kd.R_drew)); exact (Kd.R_mono (Kd.R_far (p := ⟨gb352, 3, none⟩) (Kd.R_far (p := ⟨gb352, 2, none⟩) (Kd.R_far (p := ⟨gb352, 1, none⟩) (Kd.R_far (p := ⟨gb352, 0, none⟩) (Kd.R_types HO333.out BK352.out (by decide)) (fun _ hk => hk.2) (.int .u64 a0_0)) (fun _ hk => hk.2) (.int .u64 a0_1)) (fun _ hk => hk.2) (.string a0_2)) (fun _ hk => hk.2) (.slice A0_3 l0_3.length c0_3)) (fun _ h_ => h_.1))) (Kd.R_base ho80) hb); have n1_ := a_ (Kd.R_elder' (by (with_reducible repeat (first | apply Kd.R_alloc | apply Kd.R_drewN | apply Kd.R_drew)); exact (Kd.R_mono (Kd.R_far (p := ⟨gb352, 3, none⟩) (Kd.R_far (p := ⟨gb352, 2, none⟩) (Kd.R_far (p := ⟨gb352, 1, none⟩) (Kd.R_far (p := ⟨gb352, 0, none⟩) (Kd.R_types HO351.out BK352.out (by decide)) (fun _ hk => hk.2) (.int .u64 a0_0)) (fun _ hk => hk.2) (.int .u64 a0_1)) (fun _ hk => hk.2) (.string a0_2)) (fun _ hk => hk.2) (.slice A0_3 l0_3.length c0_3)) (fun _ h_ => h_.1))) (Kd.R_base ho80) hb); have n2_ := a_ (Kd.R_lower (Kd.R_new' (Kd.R_new' ho80 (Kd.R_lt (by (with_reducible repeat (first | apply Kd.R_alloc | apply Kd.R_drewN | apply Kd.R_drew)); exact (Kd.R_mono (Kd.R_far (p := ⟨gb352, 3, none⟩) (Kd.R_far (p := ⟨gb352, 2, none⟩) (Kd.R_far (p := ⟨gb352, 1, none⟩) (Kd.R_far (p := ⟨gb352, 0, none⟩) (Kd.R_types HO333.out BK352.out (by decide)) (fun _ hk => hk.2) (.int .u64 a0_0)) (fun _ hk => hk.2) (.int .u64 a0_1)) (fun _ hk => hk.2) (.string a0_2)) (fun _ hk => hk.2) (.slice A0_3 l0_3.length c0_3)) (fun _ h_ => h_.1))))) (Kd.R_lt (by (with_reducible repeat (first | apply Kd.R_alloc | apply Kd.R_drewN | apply Kd.R_drew)); exact (Kd.R_mono (Kd.R_far (p := ⟨gb352, 3, none⟩) (Kd.R_far (p := ⟨gb352, 2, none⟩) (Kd.R_far (p := ⟨gb352, 1, none⟩) (Kd.R_far (p := ⟨gb352, 0, none⟩) (Kd.R_types HO351.out BK352.out (by decide)) (fun _ hk => hk.2) (.int .u64 a0_0)) (fun _ hk => hk.2) (.int .u64 a0_1)) (fun _ hk => hk.2) (.string a0_2)) (fun _ hk => hk.2) (.slice A0_3 l0_3.length c0_3)) (fun _ h_ => h_.1))))) (below_size (by repeat (first | (with_reducible first | exact HB.out | apply bA_ | apply bN_ | apply b1_ | refine bS_ ?_ GE312.out | refine bS_ ?_ GE316.out | refine bS_ ?_ GE334.out | refine bS_ ?_ GE352.out) | exact HB.out)))); have n3_ := a_ (blk_below (g := gb312) (o := .cells #[.int .u64 a0_0, .int .u64 a0_1, .string a0_2, .slice A0_3 l0_3.length c0_3] 26 (0, 0)) (by (with_reducible repeat (first | refine kN_ ?_ _ | refine kD_ ?_ | refine kA_ ?_ _)); refine blk_far ?_ NB312_352.out _; (with_reducible repeat (first | refine kN_ ?_ _ | refine kD_ ?_ | refine kA_ ?_ _)); refine blk_far ?_ NB312_352.out _; (with_reducible repeat (first | refine kN_ ?_ _ | refine kD_ ?_ | refine kA_ ?_ _)); refine blk_far ?_ NB312_352.out _; (with_reducible repeat (first | refine kN_ ?_ _ | refine kD_ ?_ | refine kA_ ?_ _)); refine blk_far ?_ NB312_352.out _; (with_reducible repeat (first | refine kN_ ?_ _ | refine kD_ ?_ | refine kA_ ?_ _)); exact BK312.out) hb); have n4_ := a_ (blk_below (g := gb316) (o := .cells #[.int .u64 a0_0, .int .u64 a0_1, .string a0_2, .slice Ao56 y331.length co56] 26 (0, 0)) (by (with_reducible repeat (first | refine kN_ ?_ _ | refine kD_ ?_ | refine kA_ ?_ _)); refine blk_far ?_ NB316_352.out _; (with_reducible repeat (first | refine kN_ ?_ _ | refine kD_ ?_ | refine kA_ ?_ _)); refine blk_far ?_ NB316_352.out _; (with_reducible repeat (first | refine kN_ ?_ _ | refine kD_ ?_ | refine kA_ ?_ _)); refine blk_far ?_ NB316_352.out _; (with_reducible repeat (first | refine kN_ ?_ _ | refine kD_ ?_ | refine kA_ ?_ _)); refine blk_far ?_ NB316_352.out _; (with_reducible repeat (first | refine kN_ ?_ _ | refine kD_ ?_ | refine kA_ ?_ _)); exact BK316.out) hb); have n5_ := a_ (blk_below (g := gb334) (o := .cells #[.int .u64 a0_0, .int .u64 a0_1, .string a0_2, .slice Ao71 y349.length co71] 26 (0, 0)) (by (with_reducible repeat (first | refine kN_ ?_ _ | refine kD_ ?_ | refine kA_ ?_ _)); refine blk_far ?_ NB334_352.out _; (with_reducible repeat (first | refine kN_ ?_ _ | refine kD_ ?_ | refine kA_ ?_ _)); refine blk_far ?_ NB334_352.out _; (with_reducible repeat (first | refine kN_ ?_ _ | refine kD_ ?_ | refine kA_ ?_ _)); refine blk_far ?_ NB334_352.out _; (with_reducible repeat (first | refine kN_ ?_ _ | refine kD_ ?_ | refine kA_ ?_ _)); refine blk_far ?_ NB334_352.out _; (with_reducible repeat (first | refine kN_ ?_ _ | refine kD_ ?_ | refine kA_ ?_ _)); exact BK334.out) hb); have n6_ := a_ (blk_below (g := gb352) (o := .cells #[.int .u64 a0_0, .int .u64 a0_1, .string a0_2, .slice A0_3 l0_3.length c0_3] 26 (0, 0)) (by (with_reducible repeat (first | refine kN_ ?_ _ | refine kD_ ?_ | refine kA_ ?_ _)); refine blk_put (cs := #[.int .u64 a0_0, .int .u64 a0_1, .string a0_2, .slice none 0 0]) ?_ 3 _ rfl; (with_reducible repeat (first | refine kN_ ?_ _ | refine kD_ ?_ | refine kA_ ?_ _)); refine blk_put (cs := #[.int .u64 a0_0, .int .u64 a0_1, .string (⟨#[]⟩ : ByteArray), .slice none 0 0]) ?_ 2 _ rfl; (with_reducible repeat (first | refine kN_ ?_ _ | refine kD_ ?_ | refine kA_ ?_ _)); refine blk_put (cs := #[.int .u64 a0_0, .int .u64 0, .string (⟨#[]⟩ : ByteArray), .slice none 0 0]) ?_ 1 _ rfl; (with_reducible repeat (first | refine kN_ ?_ _ | refine kD_ ?_ | refine kA_ ?_ _)); refine blk_put (cs := #[.int .u64 0, .int .u64 0, .string (⟨#[]⟩ : ByteArray), .slice none 0 0]) ?_ 0 _ rfl; (with_reducible repeat (first | refine kN_ ?_ _ | refine kD_ ?_ | refine kA_ ?_ _)); exact BK352.out) hb); have n7_ := a_ (below_step (by repeat (first | (with_reducible first | exact HB.out | apply bA_ | apply bN_ | apply b1_ | refine bS_ ?_ GE312.out | refine bS_ ?_ GE316.out | refine bS_ ?_ GE334.out | refine bS_ ?_ GE352.out) | exact HB.out)) hb); clear HO333; clear HO351; clear BK312; clear BK316; clear BK334; clear BK352; clear HB; have HO333 := n0_; have HO351 := n1_; have HO355 := n2_; have BK312 := n3_; have BK316 := n4_; have BK334 := n5_; have BK352 := n6_; have HB := n7_; clear n0_ n1_ n2_ n3_ n4_ n5_ n6_ n7_; clear hb ho80; have hcz81_0 : w79.cell? ⟨gb312, 0, none⟩ = some (.int .u64 a0_0) := (blk_cell BK312.out 0).trans rfl; have hcz81_1 : w79.cell? ⟨gb312, 1, none⟩ = some (.int .u64 a0_1) := (blk_cell BK312.out 1).trans rfl; have hcz81_2 : w79.cell? ⟨gb312, 2, none⟩ = some (.string a0_2) := (blk_cell BK312.out 2).trans rfl; have hcz81_3 : w79.cell? ⟨gb312, 3, none⟩ = some (.slice A0_3 l0_3.length c0_3) := (blk_cell BK312.out 3).trans rfl; have hfz81_0 := blk_frozen BK312.out 0; have hfz81_1 := blk_frozen BK312.out 1; have hfz81_2 := blk_frozen BK312.out 2; have hfz81_3 := blk_frozen BK312.out 3) | ((with_reducible refine gate_builtin (b := .append) (xs := #[.tmp 59, .tmp 61]) rfl ?_); at_builtin; refine Kd.R_append_rows k42 (w0 := w) w.heap.size rfl (.tmp 59) (.tmp 61) 24 42 (.agg #[(.string ⟨#[]⟩), (.string ⟨#[]⟩), (.int .i64 0)]) 40 rfl Tryd.underlying24 info42 rfl (by decide) (by omega) v354 y353 l0_3 _ _ _ (fun k_ => some k_ ≠ (.slice Ao56 y331.length co56 : Value).ownBlock ∧ some k_ ≠ (.slice Ao71 y349.length co71 : Value).ownBlock) (fun _ => False) rfl rfl ?aO ?aR (fun _ _ h => h) (fun _ h => h.elim) ?aF ?aB ?aS ?aL ?_; (case aR => repeat (first | exact (Kd.C_below HR0_3.out HB.out) | (with_reducible refine Kd.C_alloc ?_ _) | (with_reducible refine Kd.C_drewN ?_ _) | (with_reducible refine Kd.C_drew ?_))); (case aB => exact (by repeat (first | (with_reducible first | exact HB.out | apply bA_ | apply bN_ | apply b1_ | refine bS_ ?_ GE312.out | refine bS_ ?_ GE316.out | refine bS_ ?_ GE334.out | refine bS_ ?_ GE352.out) | exact HB.out))); (case aF => exact (fun k_ hk => ⟨Kd.fresh' (Kd.R_lt (by (with_reducible repeat (first | apply Kd.R_alloc | apply Kd.R_drewN | apply Kd.R_drew)); exact HO333.out)) k_ hk, Kd.fresh' (Kd.R_lt (by (with_reducible repeat (first | apply Kd.R_alloc | apply Kd.R_drewN | apply Kd.R_drew)); exact HO351.out)) k_ hk⟩)); (case aO => exact (by (with_reducible repeat (first | apply Kd.R_alloc | apply Kd.R_drewN | apply Kd.R_drew)); exact Kd.R_mono HO355.out (fun _ hk => ⟨hk.1.2, hk.2⟩))); (case aS => exact (below_size (by repeat (first | (with_reducible first | exact HB.out | apply bA_ | apply bN_ | apply b1_ | refine bS_ ?_ GE312.out | refine bS_ ?_ GE316.out | refine bS_ ?_ GE334.out | refine bS_ ?_ GE352.out) | exact HB.out)))); (case aL => have := LMc34.out; omega); intro v357 w82 ho hb hg hat; rw [← Ny356.out] at ho; have n0_ := a_ (blk_grown (g := gb312) (o := .cells #[.int .u64 a0_0, .int .u64 a0_1, .string a0_2, .slice A0_3 l0_3.length c0_3] 26 (0, 0)) (by (with_reducible repeat (first | refine kN_ ?_ _ | refine kD_ ?_ | refine kA_ ?_ _)); exact BK312.out) hg (Kd.R_ne HO355.out BK312.out (by decide))); have n1_ := a_ (blk_grown (g := gb316) (o := .cells #[.int .u64 a0_0, .int .u64 a0_1, .string a0_2, .slice Ao56 y331.length co56] 26 (0, 0)) (by (with_reducible repeat (first | refine kN_ ?_ _ | refine kD_ ?_ | refine kA_ ?_ _)); exact BK316.out) hg (Kd.R_ne HO355.out BK316.out (by decide))); have n2_ := a_ (Kd.R_after (ok := (fun k_ => some k_ ≠ (.slice Ao71 y349.length co71 : Value).ownBlock)) (by (with_reducible repeat (first | apply Kd.R_alloc | apply Kd.R_drewN | apply Kd.R_drew)); exact Kd.R_mono HO333.out (fun _ hk => ⟨hk.1.2, hk.2⟩)) hg hat); have n3_ := a_ (blk_grown (g := gb334) (o := .cells #[.int .u64 a0_0, .int .u64 a0_1, .string a0_2, .slice Ao71 y349.length co71] 26 (0, 0)) (by (with_reducible repeat (first | refine kN_ ?_ _ | refine kD_ ?_ | refine kA_ ?_ _)); exact BK334.out) hg (Kd.R_ne HO355.out BK334.out (by decide))); have n4_ := a_ (Kd.R_after (ok := (fun k_ => some k_ ≠ (.slice Ao56 y331.length co56 : Value).ownBlock)) (by (with_reducible repeat (first | apply Kd.R_alloc | apply Kd.R_drewN | apply Kd.R_drew)); exact HO351.out) hg hat); have n5_ := a_ (blk_grown (g := gb352) (o := .cells #[.int .u64 a0_0, .int .u64 a0_1, .string a0_2, .slice A0_3 l0_3.length c0_3] 26 (0, 0)) (by (with_reducible repeat (first | refine kN_ ?_ _ | refine kD_ ?_ | refine kA_ ?_ _)); exact BK352.out) hg (Kd.R_ne HO355.out BK352.out (by decide))); have n6_ := a_ (hb); have n7_ := a_ (ho); clear BK312; clear BK316; clear HO333; clear BK334; clear HO351; clear BK352; clear HB; clear HO355; have BK312 := n0_; have BK316 := n1_; have HO333 := n2_; have BK334 := n3_; have HO351 := n4_; have BK352 := n5_; have HB := n6_; have HO358 := n7_; clear n0_ n1_ n2_ n3_ n4_ n5_ n6_ n7_; clear ho hb hg hat; obtain ⟨Ao83, co83, eo83⟩ := Kd.R_slice HO358.out; subst eo83; have hcz84_0 : w82.cell? ⟨gb352, 0, none⟩ = some (.int .u64 a0_0) := (blk_cell BK352.out 0).trans rfl; have hcz84_1 : w82.cell? ⟨gb352, 1, none⟩ = some (.int .u64 a0_1) := (blk_cell BK352.out 1).trans rfl; have hcz84_2 : w82.cell? ⟨gb352, 2, none⟩ = some (.string a0_2) := (blk_cell BK352.out 2).trans rfl; have hcz84_3 : w82.cell? ⟨gb352, 3, none⟩ = some (.slice A0_3 l0_3.length c0_3) := (blk_cell BK352.out 3).trans rfl; have hfz84_0 := blk_frozen BK352.out 0; have hfz84_1 := blk_frozen BK352.out 1; have hfz84_2 := blk_frozen BK352.out 2; have hfz84_3 := blk_frozen BK352.out 3) | ((with_reducible refine gate_store (t := 24) (p := 63) rfl ?_); refine store_event (t := 24) (p := 63) (v := ?vo_w85) (w1 := (w82.setCell ⟨gb352, 3, none⟩ (.slice Ao83 y356.length co83))) ?hg ?ho ?hn ?hr ?_; (case ho => rfl); (case hg => rfl); (case hn => rfl); (case hr => first | (go_simp; done) | (go_simp; rfl)); intro w85 hw; have n0_ : Aside0 (Kd.R k42 42 w85 w.heap.size (fun k_ => some k_ ≠ (.slice Ao71 y349.length co71 : Value).ownBlock ∧ some k_ ≠ (.slice Ao83 y356.length co83 : Value).ownBlock) (.slice Ao56 y331.length co56) y331) := ⟨(by rw [hw]; exact (by (with_reducible repeat (first | apply Kd.R_alloc | apply Kd.R_drewN | apply Kd.R_drew)); exact Kd.R_mono (Kd.R_far (p := ⟨gb352, 3, none⟩) (Kd.R_types HO333.out BK352.out (by decide)) (fun _ hk => hk.2) (.slice Ao83 y356.length co83)) (fun _ hk => ⟨hk.1.1, hk.1.2⟩)))⟩; have n1_ : Aside0 (Kd.R k42 42 w85 w.heap.size (fun k_ => some k_ ≠ (.slice Ao56 y331.length co56 : Value).ownBlock ∧ some k_ ≠ (.slice Ao83 y356.length co83 : Value).ownBlock) (.slice Ao71 y349.length co71) y349) := ⟨(by rw [hw]; exact (by (with_reducible repeat (first | apply Kd.R_alloc | apply Kd.R_drewN | apply Kd.R_drew)); exact Kd.R_mono (Kd.R_far (p := ⟨gb352, 3, none⟩) (Kd.R_types HO351.out BK352.out (by decide)) (fun _ hk => hk.2) (.slice Ao83 y356.length co83)) (fun _ hk => ⟨hk.1.1, hk.1.2⟩)))⟩; have n2_ : Aside0 (Kd.R k42 42 w85 w.heap.size (fun k_ => some k_ ≠ (.slice Ao56 y331.length co56 : Value).ownBlock ∧ some k_ ≠ (.slice Ao71 y349.length co71 : Value).ownBlock) (.slice Ao83 y356.length co83) y356) := ⟨(by rw [hw]; exact (by (with_reducible repeat (first | apply Kd.R_alloc | apply Kd.R_drewN | apply Kd.R_drew)); exact Kd.R_mono (Kd.R_far (p := ⟨gb352, 3, none⟩) (Kd.R_types HO358.out BK352.out (by decide)) (fun _ hk => hk.2) (.slice Ao83 y356.length co83)) (fun _ hk => ⟨hk.1.1, hk.1.2⟩)))⟩; have n3_ : Aside0 (w85.heap[gb312]? = some (.cells #[.int .u64 a0_0, .int .u64 a0_1, .string a0_2, .slice A0_3 l0_3.length c0_3] 26 (0, 0))) := ⟨(by rw [hw]; exact (by (with_reducible repeat (first | refine kN_ ?_ _ | refine kD_ ?_ | refine kA_ ?_ _)); refine blk_far ?_ NB312_352.out _; (with_reducible repeat (first | refine kN_ ?_ _ | refine kD_ ?_ | refine kA_ ?_ _)); exact BK312.out))⟩; have n4_ : Aside0 (w85.heap[gb316]? = some (.cells #[.int .u64 a0_0, .int .u64 a0_1, .string a0_2, .slice Ao56 y331.length co56] 26 (0, 0))) := ⟨(by rw [hw]; exact (by (with_reducible repeat (first | refine kN_ ?_ _ | refine kD_ ?_ | refine kA_ ?_ _)); refine blk_far ?_ NB316_352.out _; (with_reducible repeat (first | refine kN_ ?_ _ | refine kD_ ?_ | refine kA_ ?_ _)); exact BK316.out))⟩; have n5_ : Aside0 (w85.heap[gb334]? = some (.cells #[.int .u64 a0_0, .int .u64 a0_1, .string a0_2, .slice Ao71 y349.length co71] 26 (0, 0))) := ⟨(by rw [hw]; exact (by (with_reducible repeat (first | refine kN_ ?_ _ | refine kD_ ?_ | refine kA_ ?_ _)); refine blk_far ?_ NB334_352.out _; (with_reducible repeat (first | refine kN_ ?_ _ | refine kD_ ?_ | refine kA_ ?_ _)); exact BK334.out))⟩; have n6_ : Aside0 (w85.heap[gb352]? = some (.cells #[.int .u64 a0_0, .int .u64 a0_1, .string a0_2, .slice Ao83 y356.length co83] 26 (0, 0))) := ⟨(by rw [hw]; exact (by (with_reducible repeat (first | refine kN_ ?_ _ | refine kD_ ?_ | refine kA_ ?_ _)); refine blk_put (cs := #[.int .u64 a0_0, .int .u64 a0_1, .string a0_2, .slice A0_3 l0_3.length c0_3]) ?_ 3 _ rfl; (with_reducible repeat (first | refine kN_ ?_ _ | refine kD_ ?_ | refine kA_ ?_ _)); exact BK352.out))⟩; have n7_ : Aside0 (Below w.heap.size w w85) := ⟨(by rw [hw]; exact (by repeat (first | (with_reducible first | exact HB.out | apply bA_ | apply bN_ | apply b1_ | refine bS_ ?_ GE312.out | refine bS_ ?_ GE316.out | refine bS_ ?_ GE334.out | refine bS_ ?_ GE352.out) | exact HB.out)))⟩; clear hw; clear HO333; clear HO351; clear HO358; clear BK312; clear BK316; clear BK334; clear BK352; clear HB; have HO333 := n0_; have HO351 := n1_; have HO358 := n2_; have BK312 := n3_; have BK316 := n4_; have BK334 := n5_; have BK352 := n6_; have HB := n7_; clear n0_ n1_ n2_ n3_ n4_ n5_ n6_ n7_; have hcz86_0 : w85.cell? ⟨gb352, 0, none⟩ = some (.int .u64 a0_0) := (blk_cell BK352.out 0).trans rfl; have hcz86_1 : w85.cell? ⟨gb352, 1, none⟩ = some (.int .u64 a0_1) := (blk_cell BK352.out 1).trans rfl; have hcz86_2 : w85.cell? ⟨gb352, 2, none⟩ = some (.string a0_2) := (blk_cell BK352.out 2).trans rfl; have hcz86_3 : w85.cell? ⟨gb352, 3, none⟩ = some (.slice Ao83 y356.length co83) := (blk_cell BK352.out 3).trans rfl; have hfz86_0 := blk_frozen BK352.out 0; have hfz86_1 := blk_frozen BK352.out 1; have hfz86_2 := blk_frozen BK352.out 2; have hfz86_3 := blk_frozen BK352.out 3; have p36 : 0 ≤ ((ji20) : Int) := of_decide_eq_true (by first | (with_reducible assumption) | assumption); have q36 : ((ji20) : Int) < ((y356.length : Int) : Int) := of_decide_eq_true (by first | (with_reducible assumption) | assumption); obtain ⟨go36, co36, eo36, gb36, gl36, cl36, HG36⟩ := Kd.R_form HO358.out (by omega); (first | cases eo36 | (injection eo36 with ea_ en_ ec_; (first | subst ea_ | (injection ea_ with ea_; subst ea_)); subst ec_; clear en_)); have GB36 := a_ gb36; have GG36 := a_ HG36; clear gb36 gl36 HG36; obtain ⟨ce36, hcl36, hM36, hcc36, hfr36⟩ := Kd.R_elem HO358.out z42 ((ji20) : Int) p36 q36; obtain rfl := k42_openM hM36; have hx36_0 : w85.cell? ⟨go36, ((ji20) : Int).toNat * 3, none⟩ = some (.string ((rd_T42 y356 (ji20)).f0)) := hcc36 0 _ rfl; have hx36_1 : w85.cell? ⟨go36, ((ji20) : Int).toNat * 3 + 1, none⟩ = some (.string ((rd_T42 y356 (ji20)).f1)) := hcc36 1 _ rfl; have hx36_2 : w85.cell? ⟨go36, ((ji20) : Int).toNat * 3 + 2, none⟩ = some (.int .i64 ((rd_T42 y356 (ji20)).f2)) := hcc36 2 _ rfl; have hf36_0 : w85.frozen? ⟨go36, ((ji20) : Int).toNat * 3, none⟩ = false := hfr36 0; have hf36_1 : w85.frozen? ⟨go36, ((ji20) : Int).toNat * 3 + 1, none⟩ = false := hfr36 1; have hf36_2 : w85.frozen? ⟨go36, ((ji20) : Int).toNat * 3 + 2, none⟩ = false := hfr36 2; clear hcl36 hcc36 hfr36 hM36; replace p36 := eq_true p36; replace q36 := eq_true q36; have HX87 := a_ (show Kd.R k42 42 w85 w.heap.size (fun k_ => some k_ ≠ (.slice Ao56 y331.length co56 : Value).ownBlock ∧ some k_ ≠ (.slice Ao71 y349.length co71 : Value).ownBlock) (.slice (some ⟨go36, 0, none⟩) y356.length co83) y356 from (by (with_reducible repeat (first | apply Kd.R_alloc | apply Kd.R_drewN | apply Kd.R_drew)); exact HO358.out)); obtain ⟨ce87, hcl87, hM87, hcc87, hfr87⟩ := Kd.R_elem HX87.out z42 ((ji20) : Int) (of_decide_eq_true (by first | (with_reducible assumption) | assumption)) (by have h_ : ((ji20) : Int) < ((y356.length : Int) : Int) := of_decide_eq_true (by first | (with_reducible assumption) | assumption); first | exact h_ | (have e_ := (Kd.R_reads' HO358.out).1; omega) | simpa using h_); obtain rfl := k42_openM hM87; have HP87 := Kd.R_seg HX87.out ((ji20) : Int) (of_decide_eq_true (by first | (with_reducible assumption) | assumption)) (by have h_ : ((ji20) : Int) < ((y356.length : Int) : Int) := of_decide_eq_true (by first | (with_reducible assumption) | assumption); first | exact h_ | (have e_ := (Kd.R_reads' HO358.out).1; omega) | simpa using h_) (seg := [.int .i64 a2]) (j := 2) hcl87 hcc87 (show 3 ≤ 3 from by decide) (x' := (⟨(rd_T42 y356 (ji20)).f0, (rd_T42 y356 (ji20)).f1, a2⟩ : S42)) (k42_mkM _ _ _ (⟨(rd_T42 y356 (ji20)).f0, (rd_T42 y356 (ji20)).f1, a2⟩ : S42) ) (fun _ hk => hk); have hx87_2 := hcc87 2 _ rfl; (try simp only [show (k42).sz = 3 from rfl, Nat.mul_one, Nat.add_zero] at hx87_2); have hf87_2 := hfr87 2; (try simp only [show (k42).sz = 3 from rfl, Nat.mul_one, Nat.add_zero] at hf87_2); clear hcl87 hcc87 hfr87 hM87) | ((with_reducible refine gate_store (t := 2) (p := 69) rfl ?_); refine store_event (t := 2) (p := 69) (v := ?vo_w88) (w1 := (w85.setCell ⟨go36, ((ji20) : Int).toNat * 3 + 2, none⟩ (.int .i64 a2))) ?hg ?ho ?hn ?hr ?_; (case ho => rfl); (case hg => rfl); (case hn => rfl); (case hr => first | (go_simp; done) | (go_simp; rfl)); intro w88 hw; have hg : w85.grownBy w88 (some go36) := (by rw [hw]; exact HP87.2); have hp_ : Kd.R k42 42 w88 w.heap.size (fun k_ => some k_ ≠ (.slice Ao56 y331.length co56 : Value).ownBlock ∧ some k_ ≠ (.slice Ao71 y349.length co71 : Value).ownBlock) (.slice (some ⟨go36, 0, none⟩) y356.length co83) y359 := (by rw [hw, Ny359.out]; exact HP87.1); clear HP87; have n0_ := a_ (blk_grown (g := gb312) (o := .cells #[.int .u64 a0_0, .int .u64 a0_1, .string a0_2, .slice A0_3 l0_3.length c0_3] 26 (0, 0)) (by (with_reducible repeat (first | refine kN_ ?_ _ | refine kD_ ?_ | refine kA_ ?_ _)); exact BK312.out) hg (Kd.R_ne HO358.out BK312.out (by decide))); have n1_ := a_ (blk_grown (g := gb316) (o := .cells #[.int .u64 a0_0, .int .u64 a0_1, .string a0_2, .slice Ao56 y331.length co56] 26 (0, 0)) (by (with_reducible repeat (first | refine kN_ ?_ _ | refine kD_ ?_ | refine kA_ ?_ _)); exact BK316.out) hg (Kd.R_ne HO358.out BK316.out (by decide))); have n2_ := a_ (Kd.R_after (v := (.slice (some ⟨go36, 0, none⟩) y356.length co83)) (v1 := (.slice (some ⟨go36, 0, none⟩) y356.length co83)) (ok := (fun k_ => some k_ ≠ (.slice Ao71 y349.length co71 : Value).ownBlock)) (by (with_reducible repeat (first | apply Kd.R_alloc | apply Kd.R_drewN | apply Kd.R_drew)); exact HO333.out) hg (.inl rfl)); have n3_ := a_ (blk_grown (g := gb334) (o := .cells #[.int .u64 a0_0, .int .u64 a0_1, .string a0_2, .slice Ao71 y349.length co71] 26 (0, 0)) (by (with_reducible repeat (first | refine kN_ ?_ _ | refine kD_ ?_ | refine kA_ ?_ _)); exact BK334.out) hg (Kd.R_ne HO358.out BK334.out (by decide))); have n4_ := a_ (Kd.R_after (v := (.slice (some ⟨go36, 0, none⟩) y356.length co83)) (v1 := (.slice (some ⟨go36, 0, none⟩) y356.length co83)) (ok := (fun k_ => some k_ ≠ (.slice Ao56 y331.length co56 : Value).ownBlock)) (by (with_reducible repeat (first | apply Kd.R_alloc | apply Kd.R_drewN | apply Kd.R_drew)); exact HO351.out) hg (.inl rfl)); have n5_ := a_ (blk_grown (g := gb352) (o := .cells #[.int .u64 a0_0, .int .u64 a0_1, .string a0_2, .slice (some ⟨go36, 0, none⟩) y356.length co83] 26 (0, 0)) (by (with_reducible repeat (first | refine kN_ ?_ _ | refine kD_ ?_ | refine kA_ ?_ _)); exact BK352.out) hg (Kd.R_ne HO358.out BK352.out (by decide))); have n6_ := a_ (hp_); have n7_ := a_ ((by rw [hw]; exact below_set (HB.out) GB36.out : Below w.heap.size w w88)); clear BK312; clear BK316; clear HO333; clear BK334; clear HO351; clear BK352; clear HO358; clear HB; have BK312 := n0_; have BK316 := n1_; have HO333 := n2_; have BK334 := n3_; have HO351 := n4_; have BK352 := n5_; have HO358 := n6_; have HB := n7_; clear n0_ n1_ n2_ n3_ n4_ n5_ n6_ n7_; clear hg hw hp_))
                    have n0_ := a_ (Kd.R_drew HO333.out)
                    have n1_ := a_ (Kd.R_drew HO351.out)
                    have n2_ := a_ (Kd.R_drew HO358.out)
                    have n3_ := a_ (blk_drew BK312.out)
                    have n4_ := a_ (blk_drew BK316.out)
                    have n5_ := a_ (blk_drew BK334.out)
                    have n6_ := a_ (blk_drew BK352.out)
                    have n7_ := a_ (below_drew1 HB.out)
                    clear HO333
                    clear HO351
                    clear HO358
                    clear BK312
                    clear BK316
                    clear BK334
                    clear BK352
                    clear HB
                    have HO333 := n0_
                    have HO351 := n1_
                    have HO358 := n2_
                    have BK312 := n3_
                    have BK316 := n4_
                    have BK334 := n5_
                    have BK352 := n6_
                    have HB := n7_
                    clear n0_ n1_ n2_ n3_ n4_ n5_ n6_ n7_
                    have p363 : 0 ≤ ((ji20) : Int) := of_decide_eq_true (by first | (with_reducible assumption) | assumption)
                    have q363 : (ji20) < (l0_3.length : Int) := of_decide_eq_true (by first | (with_reducible assumption) | assumption)
                    obtain ⟨ad363, e363, hx363_0, hx363_1, hx363_2⟩ := at_T42 HR0_3.out (ji20) p363 q363
                    have hw363_2 := hx363_2
                    have hw363_1 := hx363_1
                    have hw363_0 := hx363_0
                    cases e363
                    replace hx363_0 := (HB.out.cell (World.block_lt_of_cell? w _ hx363_0)).trans hx363_0
                    replace hx363_1 := (HB.out.cell (World.block_lt_of_cell? w _ hx363_1)).trans hx363_1
                    replace hx363_2 := (HB.out.cell (World.block_lt_of_cell? w _ hx363_2)).trans hx363_2
                    replace p363 := eq_true p363
                    replace q363 := eq_true q363
                    refine start_ (n := 26) (S := fun w' => w'.cell? ⟨gb316, 0, none⟩ = some (.int .u64 a0_0) ∧ w'.cell? ⟨gb316, 1, none⟩ = some (.int .u64 a0_1) ∧ w'.cell? ⟨gb316, 2, none⟩ = some (.string a0_2) ∧ w'.cell? ⟨gb316, 3, none⟩ = some (.slice Ao56 y331.length co56) ∧ w'.cell? ⟨gb334, 0, none⟩ = some (.int .u64 a0_0) ∧ w'.cell? ⟨gb334, 1, none⟩ = some (.int .u64 a0_1) ∧ w'.cell? ⟨gb334, 2, none⟩ = some (.string a0_2) ∧ w'.cell? ⟨gb334, 3, none⟩ = some (.slice Ao71 y349.length co71) ∧ w'.cell? ⟨gb352, 0, none⟩ = some (.int .u64 a0_0) ∧ w'.cell? ⟨gb352, 1, none⟩ = some (.int .u64 a0_1) ∧ w'.cell? ⟨gb352, 2, none⟩ = some (.string a0_2) ∧ w'.cell? ⟨gb352, 3, none⟩ = some (.slice (some ⟨go36, 0, none⟩) y356.length co83) ∧ w'.cell? ⟨gb312, 0, none⟩ = some (.int .u64 a0_0) ∧ w'.cell? ⟨gb312, 1, none⟩ = some (.int .u64 a0_1) ∧ w'.cell? ⟨gb312, 2, none⟩ = some (.string a0_2) ∧ w'.cell? ⟨gb312, 3, none⟩ = some (.slice (some ad363) l0_3.length c0_3) ∧ w'.cell? (ad363.add (((ji20)).toNat * 3)) = some (.string ((rd_T42 l0_3 (ji20)).f0)) ∧ w'.cell? ⟨(ad363.add (((ji20)).toNat * 3)).block, (ad363.add (((ji20)).toNat * 3)).off + 1, none⟩ = some (.string ((rd_T42 l0_3 (ji20)).f1)) ∧ w'.cell? ⟨(ad363.add (((ji20)).toNat * 3)).block, (ad363.add (((ji20)).toNat * 3)).off + 2, none⟩ = some (.int .i64 ((rd_T42 l0_3 (ji20)).f2))) (ds := []) #[false, false, false, false, false, false, false, false, false, false, false, false, false, false, false, false, false, false, false, false, false, false, false, false, false, false] (by kernel_rfl) rfl rfl ⟨(blk_cell BK316.out 0).trans rfl, (blk_cell BK316.out 1).trans rfl, (blk_cell BK316.out 2).trans rfl, (blk_cell BK316.out 3).trans rfl, (blk_cell BK334.out 0).trans rfl, (blk_cell BK334.out 1).trans rfl, (blk_cell BK334.out 2).trans rfl, (blk_cell BK334.out 3).trans rfl, (blk_cell BK352.out 0).trans rfl, (blk_cell BK352.out 1).trans rfl, (blk_cell BK352.out 2).trans rfl, (blk_cell BK352.out 3).trans rfl, (blk_cell BK312.out 0).trans rfl, (blk_cell BK312.out 1).trans rfl, (blk_cell BK312.out 2).trans rfl, (blk_cell BK312.out 3).trans rfl, ((HB.out.cell (World.block_lt_of_cell? w _ hw363_0)).trans hw363_0), ((HB.out.cell (World.block_lt_of_cell? w _ hw363_1)).trans hw363_1), ((HB.out.cell (World.block_lt_of_cell? w _ hw363_2)).trans hw363_2)⟩ (fun hHeld => ?_); refine with_tabW cambistlaw12_JournalLegs.tab14 cambistlaw12_JournalLegs.bits14 (fun HT_ HW_ => ?_)
                    generalize w88.drew = w89 at HO333 HO351 HO358 BK312 BK316 BK334 BK352 HB hx363_0 hx363_1 hx363_2 hHeld ⊢
                    refine pure_ (i := 0) (N := some 70) (v := ?_) (a' := ?_) (fl_ 26 1) rfl rfl (any_of HT_.out (by kernel_rfl)) (fun _ _ _ h => h) (Or.inl ⟨by rfl, ?_⟩) ?_ ?_
                    rotate_left
                    ·intro w'
                     go_simp
                     with_reducible rfl
                    rotate_left
                    ·simp only [Act.put, sT_, s0_, sS_, i64_w, i32_w]
                     rfl
                    refine pure_ (i := 1) (N := some 71) (v := ?_) (a' := ?_) (fl_ 26 3) rfl rfl (any_of HT_.out (by kernel_rfl)) (fun _ _ _ h => h) (Or.inl ⟨by rfl, ?_⟩) ?_ ?_
                    rotate_left
                    ·intro w'
                     go_simp
                     with_reducible rfl
                    rotate_left
                    ·simp only [Act.put, sT_, s0_, sS_, i64_w, i32_w]
                     rfl
                    refine take_ (i := 2) (N := some 72) (v := ?_) (a' := ?_) (fl_ 26 7) rfl rfl (take_ofW HT_.out HW_.out (by kernel_rfl)) (fun _ _ _ h => h) (Or.inl ⟨by rfl, ?_⟩) hHeld ?_ ?_
                    rotate_left
                    ·rintro w' ⟨s0, s1, s2, s3, s4, s5, s6, s7, s8, s9, s10, s11, s12, s13, s14, s15, s16, s17, s18⟩
                     go_simp
                     with_reducible rfl
                    rotate_left
                    ·simp only [Act.put, sT_, s0_, sS_, i64_w, i32_w]
                     rfl
                    refine one_ (i := 3) (N := some 73) (fl_ 26 15) rfl rfl (one_of HT_.out (by kernel_rfl)) (by decide) (fun K hK => ?_)
                    refine goes_ Tryd.func13 (by kernel_rfl) rfl #[.agg #[.int .u64 a0_0, .int .u64 a0_1, .string a0_2, .slice Ao56 y331.length co56]] (by rfl) rfl rfl (by (try simp only [List.map_toArray, List.map_cons, List.map_nil]); first | done | rfl | (simp only [List.length_drop, List.length_take]; rfl)) ?_
                    with_reducible refine (journal_Check.calls a0_0 a0_1 a0_2 _ _ y331 t360 _ ?side1 ?side2 ?side3 A38.out).mono ?_
                    (case side1 => exact Glob.below HG.out (by repeat (first | (with_reducible first | exact HB.out | apply bA_ | apply bN_ | apply b1_ | refine bS_ ?_ GE312.out | refine bS_ ?_ GE316.out | refine bS_ ?_ GE334.out | refine bS_ ?_ GE352.out) | exact HB.out)))
                    (case side2 => repeat (first | exact (Kd.R_reads' HO333.out).2.2 | (with_reducible refine Kd.C_alloc ?_ _) | (with_reducible refine Kd.C_drewN ?_ _) | (with_reducible refine Kd.C_drew ?_)))
                    (case side3 => exact (Kd.R_reads' HO333.out).2.1)
                    rintro e w90 ⟨rfl, hb⟩
                    refine ⟨_, rfl, ?_⟩
                    have n0_ := a_ (Kd.R_below (by (with_reducible repeat (first | apply Kd.R_alloc | apply Kd.R_drewN | apply Kd.R_drew)); exact HO333.out) hb)
                    have n1_ := a_ (Kd.R_below (by (with_reducible repeat (first | apply Kd.R_alloc | apply Kd.R_drewN | apply Kd.R_drew)); exact HO351.out) hb)
                    have n2_ := a_ (Kd.R_below (by (with_reducible repeat (first | apply Kd.R_alloc | apply Kd.R_drewN | apply Kd.R_drew)); exact HO358.out) hb)
                    have n3_ := a_ (blk_below (g := gb312) (o := .cells #[.int .u64 a0_0, .int .u64 a0_1, .string a0_2, .slice (some ad363) l0_3.length c0_3] 26 (0, 0)) (by (with_reducible repeat (first | refine kN_ ?_ _ | refine kD_ ?_ | refine kA_ ?_ _)); exact BK312.out) hb)
                    have n4_ := a_ (blk_below (g := gb316) (o := .cells #[.int .u64 a0_0, .int .u64 a0_1, .string a0_2, .slice Ao56 y331.length co56] 26 (0, 0)) (by (with_reducible repeat (first | refine kN_ ?_ _ | refine kD_ ?_ | refine kA_ ?_ _)); exact BK316.out) hb)
                    have n5_ := a_ (blk_below (g := gb334) (o := .cells #[.int .u64 a0_0, .int .u64 a0_1, .string a0_2, .slice Ao71 y349.length co71] 26 (0, 0)) (by (with_reducible repeat (first | refine kN_ ?_ _ | refine kD_ ?_ | refine kA_ ?_ _)); exact BK334.out) hb)
                    have n6_ := a_ (blk_below (g := gb352) (o := .cells #[.int .u64 a0_0, .int .u64 a0_1, .string a0_2, .slice (some ⟨go36, 0, none⟩) y356.length co83] 26 (0, 0)) (by (with_reducible repeat (first | refine kN_ ?_ _ | refine kD_ ?_ | refine kA_ ?_ _)); exact BK352.out) hb)
                    have n7_ := a_ (below_step (by repeat (first | (with_reducible first | exact HB.out | apply bA_ | apply bN_ | apply b1_ | refine bS_ ?_ GE312.out | refine bS_ ?_ GE316.out | refine bS_ ?_ GE334.out | refine bS_ ?_ GE352.out) | exact HB.out)) hb)
                    clear HO333
                    clear HO351
                    clear HO358
                    clear BK312
                    clear BK316
                    clear BK334
                    clear BK352
                    clear HB
                    have HO333 := n0_
                    have HO351 := n1_
                    have HO358 := n2_
                    have BK312 := n3_
                    have BK316 := n4_
                    have BK334 := n5_
                    have BK352 := n6_
                    have HB := n7_
                    clear n0_ n1_ n2_ n3_ n4_ n5_ n6_ n7_
                    (try clear hb)
                    (try clear hb2)
                    (try clear hk)
                    (try clear hi)
                    refine hK.out _ _ ⟨(blk_cell BK316.out 0).trans rfl, (blk_cell BK316.out 1).trans rfl, (blk_cell BK316.out 2).trans rfl, (blk_cell BK316.out 3).trans rfl, (blk_cell BK334.out 0).trans rfl, (blk_cell BK334.out 1).trans rfl, (blk_cell BK334.out 2).trans rfl, (blk_cell BK334.out 3).trans rfl, (blk_cell BK352.out 0).trans rfl, (blk_cell BK352.out 1).trans rfl, (blk_cell BK352.out 2).trans rfl, (blk_cell BK352.out 3).trans rfl, (blk_cell BK312.out 0).trans rfl, (blk_cell BK312.out 1).trans rfl, (blk_cell BK312.out 2).trans rfl, (blk_cell BK312.out 3).trans rfl, ((HB.out.cell (World.block_lt_of_cell? w _ hw363_0)).trans hw363_0), ((HB.out.cell (World.block_lt_of_cell? w _ hw363_1)).trans hw363_1), ((HB.out.cell (World.block_lt_of_cell? w _ hw363_2)).trans hw363_2)⟩ (fun hHeld => ?_)
                    clear hK K
                    refine norm_ (a' := ?_) ?_ ?_
                    rotate_left
                    ·show Act.put _ (some 73) _ = _
                     simp only [Act.put, sT_, s0_, sS_, i64_w, i32_w]
                     rfl
                    refine pure_ (i := 4) (N := some 74) (v := ?_) (a' := ?_) (fl_ 26 31) rfl rfl (any_of HT_.out (by kernel_rfl)) (fun _ _ _ h => h) (Or.inl ⟨by rfl, ?_⟩) ?_ ?_
                    rotate_left
                    ·intro w'
                     go_simp
                     with_reducible rfl
                    rotate_left
                    ·simp only [Act.put, sT_, s0_, sS_, i64_w, i32_w]
                     rfl
                    refine pure_ (i := 5) (N := some 75) (v := ?_) (a' := ?_) (fl_ 26 63) rfl rfl (any_of HT_.out (by kernel_rfl)) (fun _ _ _ h => h) (Or.inl ⟨by rfl, ?_⟩) ?_ ?_
                    rotate_left
                    ·intro w'
                     go_simp
                     with_reducible rfl
                    rotate_left
                    ·simp only [Act.put, sT_, s0_, sS_, i64_w, i32_w]
                     rfl
                    refine pure_ (i := 6) (N := some 76) (v := ?_) (a' := ?_) (fl_ 26 127) rfl rfl (any_of HT_.out (by kernel_rfl)) (fun _ _ _ h => h) (Or.inl ⟨by rfl, ?_⟩) ?_ ?_
                    rotate_left
                    ·intro w'
                     go_simp
                     with_reducible rfl
                    rotate_left
                    ·simp only [Act.put, sT_, s0_, sS_, i64_w, i32_w]
                     rfl
                    refine take_ (i := 7) (N := some 77) (v := ?_) (a' := ?_) (fl_ 26 255) rfl rfl (take_ofW HT_.out HW_.out (by kernel_rfl)) (fun _ _ _ h => h) (Or.inl ⟨by rfl, ?_⟩) hHeld ?_ ?_
                    rotate_left
                    ·rintro w' ⟨s0, s1, s2, s3, s4, s5, s6, s7, s8, s9, s10, s11, s12, s13, s14, s15, s16, s17, s18⟩
                     go_simp
                     with_reducible rfl
                    rotate_left
                    ·simp only [Act.put, sT_, s0_, sS_, i64_w, i32_w]
                     rfl
                    refine one_ (i := 8) (N := some 78) (fl_ 26 511) rfl rfl (one_of HT_.out (by kernel_rfl)) (by decide) (fun K hK => ?_)
                    refine goes_ Tryd.func13 (by kernel_rfl) rfl #[.agg #[.int .u64 a0_0, .int .u64 a0_1, .string a0_2, .slice Ao71 y349.length co71]] (by rfl) rfl rfl (by (try simp only [List.map_toArray, List.map_cons, List.map_nil]); first | done | rfl | (simp only [List.length_drop, List.length_take]; rfl)) ?_
                    with_reducible refine (journal_Check.calls a0_0 a0_1 a0_2 _ _ y349 t361 _ ?side1 ?side2 ?side3 A40.out).mono ?_
                    (case side1 => exact Glob.below HG.out (by repeat (first | (with_reducible first | exact HB.out | apply bA_ | apply bN_ | apply b1_ | refine bS_ ?_ GE312.out | refine bS_ ?_ GE316.out | refine bS_ ?_ GE334.out | refine bS_ ?_ GE352.out) | exact HB.out)))
                    (case side2 => repeat (first | exact (Kd.R_reads' HO351.out).2.2 | (with_reducible refine Kd.C_alloc ?_ _) | (with_reducible refine Kd.C_drewN ?_ _) | (with_reducible refine Kd.C_drew ?_)))
                    (case side3 => exact (Kd.R_reads' HO351.out).2.1)
                    rintro e w91 ⟨rfl, hb⟩
                    refine ⟨_, rfl, ?_⟩
                    have n0_ := a_ (Kd.R_below (by (with_reducible repeat (first | apply Kd.R_alloc | apply Kd.R_drewN | apply Kd.R_drew)); exact HO333.out) hb)
                    have n1_ := a_ (Kd.R_below (by (with_reducible repeat (first | apply Kd.R_alloc | apply Kd.R_drewN | apply Kd.R_drew)); exact HO351.out) hb)
                    have n2_ := a_ (Kd.R_below (by (with_reducible repeat (first | apply Kd.R_alloc | apply Kd.R_drewN | apply Kd.R_drew)); exact HO358.out) hb)
                    have n3_ := a_ (blk_below (g := gb312) (o := .cells #[.int .u64 a0_0, .int .u64 a0_1, .string a0_2, .slice (some ad363) l0_3.length c0_3] 26 (0, 0)) (by (with_reducible repeat (first | refine kN_ ?_ _ | refine kD_ ?_ | refine kA_ ?_ _)); exact BK312.out) hb)
                    have n4_ := a_ (blk_below (g := gb316) (o := .cells #[.int .u64 a0_0, .int .u64 a0_1, .string a0_2, .slice Ao56 y331.length co56] 26 (0, 0)) (by (with_reducible repeat (first | refine kN_ ?_ _ | refine kD_ ?_ | refine kA_ ?_ _)); exact BK316.out) hb)
                    have n5_ := a_ (blk_below (g := gb334) (o := .cells #[.int .u64 a0_0, .int .u64 a0_1, .string a0_2, .slice Ao71 y349.length co71] 26 (0, 0)) (by (with_reducible repeat (first | refine kN_ ?_ _ | refine kD_ ?_ | refine kA_ ?_ _)); exact BK334.out) hb)
                    have n6_ := a_ (blk_below (g := gb352) (o := .cells #[.int .u64 a0_0, .int .u64 a0_1, .string a0_2, .slice (some ⟨go36, 0, none⟩) y356.length co83] 26 (0, 0)) (by (with_reducible repeat (first | refine kN_ ?_ _ | refine kD_ ?_ | refine kA_ ?_ _)); exact BK352.out) hb)
                    have n7_ := a_ (below_step (by repeat (first | (with_reducible first | exact HB.out | apply bA_ | apply bN_ | apply b1_ | refine bS_ ?_ GE312.out | refine bS_ ?_ GE316.out | refine bS_ ?_ GE334.out | refine bS_ ?_ GE352.out) | exact HB.out)) hb)
                    clear HO333
                    clear HO351
                    clear HO358
                    clear BK312
                    clear BK316
                    clear BK334
                    clear BK352
                    clear HB
                    have HO333 := n0_
                    have HO351 := n1_
                    have HO358 := n2_
                    have BK312 := n3_
                    have BK316 := n4_
                    have BK334 := n5_
                    have BK352 := n6_
                    have HB := n7_
                    clear n0_ n1_ n2_ n3_ n4_ n5_ n6_ n7_
                    (try clear hb)
                    (try clear hb2)
                    (try clear hk)
                    (try clear hi)
                    refine hK.out _ _ ⟨(blk_cell BK316.out 0).trans rfl, (blk_cell BK316.out 1).trans rfl, (blk_cell BK316.out 2).trans rfl, (blk_cell BK316.out 3).trans rfl, (blk_cell BK334.out 0).trans rfl, (blk_cell BK334.out 1).trans rfl, (blk_cell BK334.out 2).trans rfl, (blk_cell BK334.out 3).trans rfl, (blk_cell BK352.out 0).trans rfl, (blk_cell BK352.out 1).trans rfl, (blk_cell BK352.out 2).trans rfl, (blk_cell BK352.out 3).trans rfl, (blk_cell BK312.out 0).trans rfl, (blk_cell BK312.out 1).trans rfl, (blk_cell BK312.out 2).trans rfl, (blk_cell BK312.out 3).trans rfl, ((HB.out.cell (World.block_lt_of_cell? w _ hw363_0)).trans hw363_0), ((HB.out.cell (World.block_lt_of_cell? w _ hw363_1)).trans hw363_1), ((HB.out.cell (World.block_lt_of_cell? w _ hw363_2)).trans hw363_2)⟩ (fun hHeld => ?_)
                    clear hK K
                    refine norm_ (a' := ?_) ?_ ?_
                    rotate_left
                    ·show Act.put _ (some 78) _ = _
                     simp only [Act.put, sT_, s0_, sS_, i64_w, i32_w]
                     rfl
                    refine pure_ (i := 9) (N := some 79) (v := ?_) (a' := ?_) (fl_ 26 1023) rfl rfl (any_of HT_.out (by kernel_rfl)) (fun _ _ _ h => h) (Or.inl ⟨by rfl, ?_⟩) ?_ ?_
                    rotate_left
                    ·intro w'
                     go_simp
                     with_reducible rfl
                    rotate_left
                    ·simp only [Act.put, sT_, s0_, sS_, i64_w, i32_w]
                     rfl
                    refine pure_ (i := 10) (N := some 80) (v := ?_) (a' := ?_) (fl_ 26 2047) rfl rfl (any_of HT_.out (by kernel_rfl)) (fun _ _ _ h => h) (Or.inl ⟨by rfl, ?_⟩) ?_ ?_
                    rotate_left
                    ·intro w'
                     go_simp
                     with_reducible rfl
                    rotate_left
                    ·simp only [Act.put, sT_, s0_, sS_, i64_w, i32_w]
                     rfl
                    refine pure_ (i := 11) (N := some 81) (v := ?_) (a' := ?_) (fl_ 26 4095) rfl rfl (any_of HT_.out (by kernel_rfl)) (fun _ _ _ h => h) (Or.inl ⟨by rfl, ?_⟩) ?_ ?_
                    rotate_left
                    ·intro w'
                     go_simp
                     with_reducible rfl
                    rotate_left
                    ·simp only [Act.put, sT_, s0_, sS_, i64_w, i32_w]
                     rfl
                    refine pure_ (i := 15) (N := some 85) (v := ?_) (a' := ?_) (fl_ 26 36863) rfl rfl (any_of HT_.out (by kernel_rfl)) (fun _ _ _ h => h) (Or.inl ⟨by rfl, ?_⟩) ?_ ?_
                    rotate_left
                    ·intro w'
                     go_simp
                     with_reducible rfl
                    rotate_left
                    ·simp only [Act.put, sT_, s0_, sS_, i64_w, i32_w]
                     rfl
                    refine pure_ (i := 16) (N := some 86) (v := ?_) (a' := ?_) (fl_ 26 102399) rfl rfl (any_of HT_.out (by kernel_rfl)) (fun _ _ _ h => h) (Or.inl ⟨by rfl, ?_⟩) ?_ ?_
                    rotate_left
                    ·intro w'
                     go_simp
                     with_reducible rfl
                    rotate_left
                    ·simp only [Act.put, sT_, s0_, sS_, i64_w, i32_w]
                     rfl
                    refine pure_ (i := 18) (N := some 88) (v := ?_) (a' := ?_) (fl_ 26 364543) rfl rfl (any_of HT_.out (by kernel_rfl)) (fun _ _ _ h => h) (Or.inl ⟨by rfl, ?_⟩) ?_ ?_
                    rotate_left
                    ·intro w'
                     go_simp
                     with_reducible rfl
                    rotate_left
                    ·simp only [Act.put, sT_, s0_, sS_, i64_w, i32_w]
                     rfl
                    refine take_ (i := 12) (N := some 82) (v := ?_) (a' := ?_) (fl_ 26 368639) rfl rfl (take_ofW HT_.out HW_.out (by kernel_rfl)) (fun _ _ _ h => h) (Or.inl ⟨by rfl, ?_⟩) hHeld ?_ ?_
                    rotate_left
                    ·rintro w' ⟨s0, s1, s2, s3, s4, s5, s6, s7, s8, s9, s10, s11, s12, s13, s14, s15, s16, s17, s18⟩
                     go_simp
                     with_reducible rfl
                    rotate_left
                    ·simp only [Act.put, sT_, s0_, sS_, i64_w, i32_w]
                     rfl
                    refine take_ (i := 17) (N := some 87) (v := ?_) (a' := ?_) (fl_ 26 499711) rfl rfl (take_ofW HT_.out HW_.out (by kernel_rfl)) (fun _ _ _ h => h) (Or.inl ⟨by rfl, ?_⟩) hHeld ?_ ?_
                    rotate_left
                    ·rintro w' ⟨s0, s1, s2, s3, s4, s5, s6, s7, s8, s9, s10, s11, s12, s13, s14, s15, s16, s17, s18⟩
                     go_simp
                     with_reducible rfl
                    rotate_left
                    ·simp only [Act.put, sT_, s0_, sS_, i64_w, i32_w]
                     rfl
                    refine pure_ (i := 19) (N := some 89) (v := ?_) (a' := ?_) (fl_ 26 1023999) rfl rfl (any_of HT_.out (by kernel_rfl)) (fun _ _ _ h => h) (Or.inl ⟨by rfl, ?_⟩) ?_ ?_
                    rotate_left
                    ·intro w'
                     go_simp
                     with_reducible rfl
                    rotate_left
                    ·simp only [Act.put, sT_, s0_, sS_, i64_w, i32_w]
                     rfl
                    refine pure_ (i := 20) (N := some 90) (v := ?_) (a' := ?_) (fl_ 26 2072575) rfl rfl (any_of HT_.out (by kernel_rfl)) (fun _ _ _ h => h) (Or.inl ⟨by rfl, ?_⟩) ?_ ?_
                    rotate_left
                    ·intro w'
                     go_simp
                     with_reducible rfl
                    rotate_left
                    ·simp only [Act.put, sT_, s0_, sS_, i64_w, i32_w]
                     rfl
                    refine take_ (i := 21) (N := some 91) (v := ?_) (a' := ?_) (fl_ 26 4169727) rfl rfl (take_ofW HT_.out HW_.out (by kernel_rfl)) (fun _ _ _ h => h) (Or.inl ⟨by rfl, ?_⟩) hHeld ?_ ?_
                    rotate_left
                    ·rintro w' ⟨s0, s1, s2, s3, s4, s5, s6, s7, s8, s9, s10, s11, s12, s13, s14, s15, s16, s17, s18⟩
                     go_simp
                     with_reducible rfl
                    rotate_left
                    ·simp only [Act.put, sT_, s0_, sS_, i64_w, i32_w]
                     rfl
                    refine pure_ (i := 22) (N := some 92) (v := ?_) (a' := ?_) (fl_ 26 8364031) rfl rfl (any_of HT_.out (by kernel_rfl)) (fun _ _ _ h => h) (Or.inl ⟨by rfl, ?_⟩) ?_ ?_
                    rotate_left
                    ·intro w'
                     go_simp
                     with_reducible rfl
                    rotate_left
                    ·simp only [Act.put, sT_, s0_, sS_, i64_w, i32_w]
                     rfl
                    refine one_ (i := 13) (N := some 83) (fl_ 26 8372223) rfl rfl (one_of HT_.out (by kernel_rfl)) (by decide) (fun K hK => ?_)
                    refine goes_ Tryd.func13 (by kernel_rfl) rfl #[.agg #[.int .u64 a0_0, .int .u64 a0_1, .string a0_2, .slice (some ⟨go36, 0, none⟩) y359.length co83]] (by rfl) rfl rfl (by (try simp only [List.map_toArray, List.map_cons, List.map_nil]); first | done | (rw [show y359.length = y356.length from (Kd.R_reads' HO358.out).1.symm] <;> rfl) | rfl | (simp only [List.length_drop, List.length_take]; rfl)) ?_
                    with_reducible refine (journal_Check.calls a0_0 a0_1 a0_2 _ _ y359 t362 _ ?side1 ?side2 ?side3 A42.out).mono ?_
                    (case side1 => exact Glob.below HG.out (by repeat (first | (with_reducible first | exact HB.out | apply bA_ | apply bN_ | apply b1_ | refine bS_ ?_ GE312.out | refine bS_ ?_ GE316.out | refine bS_ ?_ GE334.out | refine bS_ ?_ GE352.out) | exact HB.out)))
                    (case side2 => repeat (first | exact (Kd.R_reads' HO358.out).2.2 | (with_reducible refine Kd.C_alloc ?_ _) | (with_reducible refine Kd.C_drewN ?_ _) | (with_reducible refine Kd.C_drew ?_)))
                    (case side3 => rw [show y359.length = y356.length from (Kd.R_reads' HO358.out).1.symm]; exact (Kd.R_reads' HO358.out).2.1)
                    rintro e w92 ⟨rfl, hb⟩
                    refine ⟨_, rfl, ?_⟩
                    have n0_ := a_ (Kd.R_below (by (with_reducible repeat (first | apply Kd.R_alloc | apply Kd.R_drewN | apply Kd.R_drew)); exact HO333.out) hb)
                    have n1_ := a_ (Kd.R_below (by (with_reducible repeat (first | apply Kd.R_alloc | apply Kd.R_drewN | apply Kd.R_drew)); exact HO351.out) hb)
                    have n2_ := a_ (Kd.R_below (by (with_reducible repeat (first | apply Kd.R_alloc | apply Kd.R_drewN | apply Kd.R_drew)); exact HO358.out) hb)
                    have n3_ := a_ (blk_below (g := gb312) (o := .cells #[.int .u64 a0_0, .int .u64 a0_1, .string a0_2, .slice (some ad363) l0_3.length c0_3] 26 (0, 0)) (by (with_reducible repeat (first | refine kN_ ?_ _ | refine kD_ ?_ | refine kA_ ?_ _)); exact BK312.out) hb)
                    have n4_ := a_ (blk_below (g := gb316) (o := .cells #[.int .u64 a0_0, .int .u64 a0_1, .string a0_2, .slice Ao56 y331.length co56] 26 (0, 0)) (by (with_reducible repeat (first | refine kN_ ?_ _ | refine kD_ ?_ | refine kA_ ?_ _)); exact BK316.out) hb)
                    have n5_ := a_ (blk_below (g := gb334) (o := .cells #[.int .u64 a0_0, .int .u64 a0_1, .string a0_2, .slice Ao71 y349.length co71] 26 (0, 0)) (by (with_reducible repeat (first | refine kN_ ?_ _ | refine kD_ ?_ | refine kA_ ?_ _)); exact BK334.out) hb)
                    have n6_ := a_ (blk_below (g := gb352) (o := .cells #[.int .u64 a0_0, .int .u64 a0_1, .string a0_2, .slice (some ⟨go36, 0, none⟩) y356.length co83] 26 (0, 0)) (by (with_reducible repeat (first | refine kN_ ?_ _ | refine kD_ ?_ | refine kA_ ?_ _)); exact BK352.out) hb)
                    have n7_ := a_ (below_step (by repeat (first | (with_reducible first | exact HB.out | apply bA_ | apply bN_ | apply b1_ | refine bS_ ?_ GE312.out | refine bS_ ?_ GE316.out | refine bS_ ?_ GE334.out | refine bS_ ?_ GE352.out) | exact HB.out)) hb)
                    clear HO333
                    clear HO351
                    clear HO358
                    clear BK312
                    clear BK316
                    clear BK334
                    clear BK352
                    clear HB
                    have HO333 := n0_
                    have HO351 := n1_
                    have HO358 := n2_
                    have BK312 := n3_
                    have BK316 := n4_
                    have BK334 := n5_
                    have BK352 := n6_
                    have HB := n7_
                    clear n0_ n1_ n2_ n3_ n4_ n5_ n6_ n7_
                    (try clear hb)
                    (try clear hb2)
                    (try clear hk)
                    (try clear hi)
                    refine hK.out _ _ ⟨(blk_cell BK316.out 0).trans rfl, (blk_cell BK316.out 1).trans rfl, (blk_cell BK316.out 2).trans rfl, (blk_cell BK316.out 3).trans rfl, (blk_cell BK334.out 0).trans rfl, (blk_cell BK334.out 1).trans rfl, (blk_cell BK334.out 2).trans rfl, (blk_cell BK334.out 3).trans rfl, (blk_cell BK352.out 0).trans rfl, (blk_cell BK352.out 1).trans rfl, (blk_cell BK352.out 2).trans rfl, (blk_cell BK352.out 3).trans rfl, (blk_cell BK312.out 0).trans rfl, (blk_cell BK312.out 1).trans rfl, (blk_cell BK312.out 2).trans rfl, (blk_cell BK312.out 3).trans rfl, ((HB.out.cell (World.block_lt_of_cell? w _ hw363_0)).trans hw363_0), ((HB.out.cell (World.block_lt_of_cell? w _ hw363_1)).trans hw363_1), ((HB.out.cell (World.block_lt_of_cell? w _ hw363_2)).trans hw363_2)⟩ (fun hHeld => ?_)
                    clear hK K
                    refine norm_ (a' := ?_) ?_ ?_
                    rotate_left
                    ·show Act.put _ (some 83) _ = _
                     simp only [Act.put, sT_, s0_, sS_, i64_w, i32_w]
                     rfl
                    refine pure_ (i := 14) (N := some 84) (v := ?_) (a' := ?_) (fl_ 26 8388607) rfl rfl (any_of HT_.out (by kernel_rfl)) (fun _ _ _ h => h) (Or.inl ⟨by rfl, ?_⟩) ?_ ?_
                    rotate_left
                    ·intro w'
                     go_simp
                     with_reducible rfl
                    rotate_left
                    ·simp only [Act.put, sT_, s0_, sS_, i64_w, i32_w]
                     rfl
                    refine pure_ (i := 23) (N := some 93) (v := ?_) (a' := ?_) (fl_ 26 16777215) rfl rfl (any_of HT_.out (by kernel_rfl)) (fun _ _ _ h => h) (Or.inl ⟨by rfl, ?_⟩) ?_ ?_
                    rotate_left
                    ·intro w'
                     go_simp
                     with_reducible rfl
                    rotate_left
                    ·simp only [Act.put, sT_, s0_, sS_, i64_w, i32_w]
                     rfl
                    refine pure_ (i := 24) (N := some 94) (v := ?_) (a' := ?_) (fl_ 26 33554431) rfl rfl (any_of HT_.out (by kernel_rfl)) (fun _ _ _ h => h) (Or.inl ⟨by rfl, ?_⟩) ?_ ?_
                    rotate_left
                    ·intro w'
                     go_simp
                     with_reducible rfl
                    rotate_left
                    ·simp only [Act.put, sT_, s0_, sS_, i64_w, i32_w]
                     rfl
                    refine pure_ (i := 25) (N := some 6) (v := ?_) (a' := ?_) (fl_ 26 67108863) rfl rfl (any_of HT_.out (by kernel_rfl)) (fun _ _ _ h => h) (Or.inl ⟨by rfl, ?_⟩) ?_ ?_
                    rotate_left
                    ·intro w'
                     go_simp
                     with_reducible rfl
                    rotate_left
                    ·simp only [Act.put, sT_, s0_, sS_, i64_w, i32_w]
                     rfl
                    refine done_ (done_of HT_.out (by kernel_rfl)) ?_
                    try go_wp2
                    go_ret
                    exact ⟨by first | rfl | (simp [errW_none, errW_some] <;> rfl) | (simp only [← hji20, ← hji30]; first | rfl | (simp [errW_none, errW_some] <;> rfl)) | (simp [*, errW_none, errW_some] <;> rfl), by repeat (first | (with_reducible first | exact HB.out | apply bA_ | apply bN_ | apply b1_ | refine bS_ ?_ GE312.out | refine bS_ ?_ GE316.out | refine bS_ ?_ GE334.out | refine bS_ ?_ GE352.out) | exact HB.out)⟩
                   ·rw [if_neg c43] at H
                    exact absurd H (by simp)
                  ·rw [if_neg c41] at H
                   exact absurd H (by simp)
                 ·rw [if_neg c39] at H
                  exact absurd H (by simp)
                ·replace c37 := Bool.eq_false_iff.mpr c37
                 subst c37
                 have H1 : (none) = some r := by rw [if_neg (show ¬ (false = true) by decide)] at H; exact H
                 clear H
                 have H := H1
                 clear H1
                 exact absurd H (by simp)
               ·rw [if_neg c35] at H
                exact absurd H (by simp)
              ·rw [if_neg c34] at H
               exact absurd H (by simp)
             ·rw [if_neg c33] at H
              exact absurd H (by simp)
            ·rw [if_neg c32] at H
             exact absurd H (by simp)
           ·rw [if_neg c31] at H
            exact absurd H (by simp)
          ·rw [if_neg c29] at H
           exact absurd H (by simp)
         ·rw [if_neg c26] at H
          exact absurd H (by simp)
        ·rw [if_neg c23] at H
         exact absurd H (by simp)
       ·rw [if_neg c22] at H
        exact absurd H (by simp)
      ·rw [if_neg c21] at H
       exact absurd H (by simp)
    ·rw [if_neg c18] at H
     have c18b0 : decide (a1 < 0) = false := decide_eq_false c18
     clear c18
     by_cases c93 : (l0_3.length : Int) = 0
     ·rw [if_pos c93] at H
      exact absurd H (by simp)
     ·rw [if_neg c93] at H
      have c93b0 : ((l0_3.length : Int) == 0) = false := beq_eq_false_iff_ne.mpr c93
      have c93b1 : ((l0_3.length : Int) != 0) = true := bne_iff_ne.mpr c93
      have c93b2 : ¬ (l0_3 = []) := fun h_ => c93 (by rw [h_]; rfl)
      obtain ⟨y365, hy365⟩ : ∃ y_ : List (S42), y_ = (([] : List (S42))) := ⟨_, rfl⟩
      (first | (replace H := named2_ hy365 H; (try dsimp only at H)) | (rw [← hy365] at H) | skip)
      have Ny365 := a_ hy365
      clear hy365
      obtain ⟨ji94, hji94⟩ : ∃ j_ : Int, (Int.tmod a1 (l0_3.length : Int)) = j_ := ⟨_, rfl⟩
      replace H : (if 0 ≤ (ji94) then (if (ji94) ≤ (l0_3.length : Int) then ((some (l0_3.drop ((ji94) : Int).toNat : List (S42))).bind fun y368 => (if y365.length + y368.length < 3518437208883 then ((some (y365 ++ y368 : List (S42))).bind fun y372 => ((some (l0_3.take ((ji94) : Int).toNat : List (S42))).bind fun y375 => (if y372.length + y375.length < 3518437208883 then ((some (([] : List (S42)) : List (S42))).bind fun y383 => ((some (l0_3.take ((ji94) : Int).toNat : List (S42))).bind fun y386 => (if y383.length + y386.length < 3518437208883 then ((some (y383 ++ y386 : List (S42))).bind fun y390 => (if 0 ≤ (wrap64 ((ji94) + 1)) then (if (wrap64 ((ji94) + 1)) ≤ (l0_3.length : Int) then ((some (l0_3.drop ((wrap64 ((ji94) + 1)) : Int).toNat : List (S42))).bind fun y393 => (if y390.length + y393.length < 3518437208883 then ((some (([] : List (S42)) : List (S42))).bind fun y401 => (if y401.length + l0_3.length < 3518437208883 then ((some (y401 ++ l0_3 : List (S42))).bind fun y404 => (if (ji94) < (y404.length : Int) then (if t313 = true then ((journal_Check.f a0_0 a0_1 a0_2 (y372 ++ y375)).bind fun t408 => (if t408 = 0 then ((journal_Check.f a0_0 a0_1 a0_2 (y390 ++ y393)).bind fun t409 => (if t409 = 120 then ((journal_Check.f a0_0 a0_1 a0_2 (y404.set ((ji94) : Int).toNat (⟨(rd_T42 y404 (ji94)).f0, (rd_T42 y404 (ji94)).f1, a2⟩ : S42))).bind fun t410 => (if (ji94) < (l0_3.length : Int) then (some ((t410 == 0) == (a2 == ((rd_T42 l0_3 (ji94)).f2)))) else (none))) else (none))) else (none))) else (none)) else (none))) else (none))) else (none))) else (none)) else (none))) else (none)))) else (none)))) else (none))) else (none)) else (none)) = some r := by first | (rw [hji94] at H; exact H) | (simp only [hji94] at H ⊢; exact H)
      by_cases c95 : 0 ≤ (ji94)
      ·rw [if_pos c95] at H
       have c95b0 := eq_true c95
       have c95b1 : decide (0 ≤ (ji94)) = true := decide_eq_true c95
       clear c95
       by_cases c96 : (ji94) ≤ (l0_3.length : Int)
       ·rw [if_pos c96] at H
        have c96b0 := eq_true c96
        have c96b1 : decide ((ji94) ≤ (l0_3.length : Int)) = true := decide_eq_true c96
        clear c96
        obtain ⟨y368, hy368⟩ : ∃ y_ : List (S42), y_ = (l0_3.drop ((ji94) : Int).toNat) := ⟨_, rfl⟩
        (first | (replace H := named2_ hy368 H; (try dsimp only at H)) | (rw [← hy368] at H) | skip)
        have Ny368 := a_ hy368
        clear hy368
        by_cases c97 : y365.length + y368.length < 3518437208883
        ·rw [if_pos c97] at H
         have LMc97 := a_ c97
         clear c97
         obtain ⟨y372, hy372⟩ : ∃ y_ : List (S42), y_ = (y365 ++ y368) := ⟨_, rfl⟩
         (first | (replace H := named2_ hy372 H; (try dsimp only at H)) | (rw [← hy372] at H) | skip)
         have Ny372 := a_ hy372
         clear hy372
         have c98b0 := eq_true (of_decide_eq_true (by first | (with_reducible assumption) | assumption) : 0 ≤ (ji94))
         have c99b0 := eq_true (of_decide_eq_true (by first | (with_reducible assumption) | assumption) : (ji94) ≤ (l0_3.length : Int))
         obtain ⟨y375, hy375⟩ : ∃ y_ : List (S42), y_ = (l0_3.take ((ji94) : Int).toNat) := ⟨_, rfl⟩
         (first | (replace H := named2_ hy375 H; (try dsimp only at H)) | (rw [← hy375] at H) | skip)
         have Ny375 := a_ hy375
         clear hy375
         by_cases c100 : y372.length + y375.length < 3518437208883
         ·rw [if_pos c100] at H
          have LMc100 := a_ c100
          clear c100
          obtain ⟨y379, hy379⟩ : ∃ y_ : List (S42), y_ = (y372 ++ y375) := ⟨_, rfl⟩
          (first | (replace H := named2_ hy379 H; (try dsimp only at H)) | (rw [← hy379] at H) | skip)
          have Ny379 := a_ hy379
          clear hy379
          obtain ⟨y383, hy383⟩ : ∃ y_ : List (S42), y_ = (([] : List (S42))) := ⟨_, rfl⟩
          (first | (replace H := named2_ hy383 H; (try dsimp only at H)) | (rw [← hy383] at H) | skip)
          have Ny383 := a_ hy383
          clear hy383
          have c101b0 := eq_true (of_decide_eq_true (by first | (with_reducible assumption) | assumption) : 0 ≤ (ji94))
          have c102b0 := eq_true (of_decide_eq_true (by first | (with_reducible assumption) | assumption) : (ji94) ≤ (l0_3.length : Int))
          obtain ⟨y386, hy386⟩ : ∃ y_ : List (S42), y_ = (l0_3.take ((ji94) : Int).toNat) := ⟨_, rfl⟩
          (first | (replace H := named2_ hy386 H; (try dsimp only at H)) | (rw [← hy386] at H) | skip)
          have Ny386 := a_ hy386
          have Ey386_ := a_ (show y375.length = y386.length by rw [Ny375.out, Ny386.out])
          clear hy386
          by_cases c103 : y383.length + y386.length < 3518437208883
          ·rw [if_pos c103] at H
           have LMc103 := a_ c103
           clear c103
           obtain ⟨y390, hy390⟩ : ∃ y_ : List (S42), y_ = (y383 ++ y386) := ⟨_, rfl⟩
           (first | (replace H := named2_ hy390 H; (try dsimp only at H)) | (rw [← hy390] at H) | skip)
           have Ny390 := a_ hy390
           clear hy390
           obtain ⟨ji104, hji104⟩ : ∃ j_ : Int, (wrap64 ((ji94) + 1)) = j_ := ⟨_, rfl⟩
           replace H : (if 0 ≤ (ji104) then (if (ji104) ≤ (l0_3.length : Int) then ((some (l0_3.drop ((ji104) : Int).toNat : List (S42))).bind fun y393 => (if y390.length + y393.length < 3518437208883 then ((some (([] : List (S42)) : List (S42))).bind fun y401 => (if y401.length + l0_3.length < 3518437208883 then ((some (y401 ++ l0_3 : List (S42))).bind fun y404 => (if (ji94) < (y404.length : Int) then (if t313 = true then ((journal_Check.f a0_0 a0_1 a0_2 y379).bind fun t408 => (if t408 = 0 then ((journal_Check.f a0_0 a0_1 a0_2 (y390 ++ y393)).bind fun t409 => (if t409 = 120 then ((journal_Check.f a0_0 a0_1 a0_2 (y404.set ((ji94) : Int).toNat (⟨(rd_T42 y404 (ji94)).f0, (rd_T42 y404 (ji94)).f1, a2⟩ : S42))).bind fun t410 => (if (ji94) < (l0_3.length : Int) then (some ((t410 == 0) == (a2 == ((rd_T42 l0_3 (ji94)).f2)))) else (none))) else (none))) else (none))) else (none)) else (none))) else (none))) else (none))) else (none)) else (none)) = some r := by first | (rw [hji104] at H; exact H) | (simp only [hji104] at H ⊢; exact H)
           have hji104w : (IntKind.i64.wrap ((ji94) + 1)) = ji104 := (i64_w _).trans hji104
           by_cases c105 : 0 ≤ (ji104)
           ·rw [if_pos c105] at H
            have c105b0 := eq_true c105
            have c105b1 : decide (0 ≤ (ji104)) = true := decide_eq_true c105
            clear c105
            by_cases c106 : (ji104) ≤ (l0_3.length : Int)
            ·rw [if_pos c106] at H
             have c106b0 := eq_true c106
             have c106b1 : decide ((ji104) ≤ (l0_3.length : Int)) = true := decide_eq_true c106
             clear c106
             obtain ⟨y393, hy393⟩ : ∃ y_ : List (S42), y_ = (l0_3.drop ((ji104) : Int).toNat) := ⟨_, rfl⟩
             (first | (replace H := named2_ hy393 H; (try dsimp only at H)) | (rw [← hy393] at H) | skip)
             have Ny393 := a_ hy393
             clear hy393
             by_cases c107 : y390.length + y393.length < 3518437208883
             ·rw [if_pos c107] at H
              have LMc107 := a_ c107
              clear c107
              obtain ⟨y397, hy397⟩ : ∃ y_ : List (S42), y_ = (y390 ++ y393) := ⟨_, rfl⟩
              (first | (replace H := named2_ hy397 H; (try dsimp only at H)) | (rw [← hy397] at H) | skip)
              have Ny397 := a_ hy397
              clear hy397
              obtain ⟨y401, hy401⟩ : ∃ y_ : List (S42), y_ = (([] : List (S42))) := ⟨_, rfl⟩
              (first | (replace H := named2_ hy401 H; (try dsimp only at H)) | (rw [← hy401] at H) | skip)
              have Ny401 := a_ hy401
              clear hy401
              by_cases c108 : y401.length + l0_3.length < 3518437208883
              ·rw [if_pos c108] at H
               have LMc108 := a_ c108
               clear c108
               obtain ⟨y404, hy404⟩ : ∃ y_ : List (S42), y_ = (y401 ++ l0_3) := ⟨_, rfl⟩
               (first | (replace H := named2_ hy404 H; (try dsimp only at H)) | (rw [← hy404] at H) | skip)
               have Ny404 := a_ hy404
               clear hy404
               by_cases c109 : (ji94) < (y404.length : Int)
               ·rw [if_pos c109] at H
                have c109b0 : decide ((ji94) < (y404.length : Int)) = true := decide_eq_true c109
                clear c109
                obtain ⟨y407, hy407⟩ : ∃ y_ : List (S42), y_ = (y404.set ((ji94) : Int).toNat (⟨(rd_T42 y404 (ji94)).f0, (rd_T42 y404 (ji94)).f1, a2⟩ : S42)) := ⟨_, rfl⟩
                (first | (replace H := named2_ hy407 H; (try dsimp only at H)) | (rw [← hy407] at H) | skip)
                have Ny407 := a_ hy407
                clear hy407
                by_cases c111 : t313 = true
                ·subst c111
                 have H1 : ((journal_Check.f a0_0 a0_1 a0_2 y379).bind fun t408 => (if t408 = 0 then ((journal_Check.f a0_0 a0_1 a0_2 y397).bind fun t409 => (if t409 = 120 then ((journal_Check.f a0_0 a0_1 a0_2 y407).bind fun t410 => (if (ji94) < (l0_3.length : Int) then (some ((t410 == 0) == (a2 == ((rd_T42 l0_3 (ji94)).f2)))) else (none))) else (none))) else (none))) = some r := by rw [if_pos rfl] at H; exact H
                 clear H
                 have H := H1
                 clear H1
                 replace H := Option.bind_eq_some_iff.mp H
                 obtain ⟨t408, A1120, H⟩ := H
                 (try dsimp only at H)
                 have A112 := a_ A1120
                 clear A1120
                 by_cases c113 : t408 = 0
                 ·rw [if_pos c113] at H
                  have c113b0 : (t408 == 0) = true := beq_iff_eq.mpr c113
                  have c113b1 : (t408 != 0) = false := bne_eq_false_iff_eq.mpr c113
                  clear c113
                  replace H := Option.bind_eq_some_iff.mp H
                  obtain ⟨t409, A1140, H⟩ := H
                  (try dsimp only at H)
                  have A114 := a_ A1140
                  clear A1140
                  by_cases c115 : t409 = 120
                  ·rw [if_pos c115] at H
                   have c115b0 : (t409 == 120) = true := beq_iff_eq.mpr c115
                   have c115b1 : (t409 != 120) = false := bne_eq_false_iff_eq.mpr c115
                   clear c115
                   replace H := Option.bind_eq_some_iff.mp H
                   obtain ⟨t410, A1160, H⟩ := H
                   (try dsimp only at H)
                   have A116 := a_ A1160
                   clear A1160
                   by_cases c117 : (ji94) < (l0_3.length : Int)
                   ·rw [if_pos c117] at H
                    have c117b0 : decide ((ji94) < (l0_3.length : Int)) = true := decide_eq_true c117
                    clear c117
                    obtain rfl := Option.some.inj H
                    have hcz118_0 : wc.cell? ⟨gb312, 0, none⟩ = some (.int .u64 a0_0) := (blk_cell BK312.out 0).trans rfl
                    have hcz118_1 : wc.cell? ⟨gb312, 1, none⟩ = some (.int .u64 a0_1) := (blk_cell BK312.out 1).trans rfl
                    have hcz118_2 : wc.cell? ⟨gb312, 2, none⟩ = some (.string a0_2) := (blk_cell BK312.out 2).trans rfl
                    have hcz118_3 : wc.cell? ⟨gb312, 3, none⟩ = some (.slice A0_3 l0_3.length c0_3) := (blk_cell BK312.out 3).trans rfl
                    have hfz118_0 := blk_frozen BK312.out 0
                    have hfz118_1 := blk_frozen BK312.out 1
                    have hfz118_2 := blk_frozen BK312.out 2
                    have hfz118_3 := blk_frozen BK312.out 3
                    try go_wp2_with (first | ((with_reducible refine gate_dst (N := 8) rfl ?_); refine box_event ?hg (N := 8) ?hd (cs := #[.int .u64 0, .int .u64 0, .string (⟨#[]⟩ : ByteArray), .slice none 0 0]) (t := 26) ?hr ?_; (case hd => rfl); (case hg => rfl); (case hr => first | (go_simp; done) | (go_simp; rfl)); intro gb364 hg w119 hbox hb; have n0_ := a_ (blk_below (g := gb312) (o := .cells #[.int .u64 a0_0, .int .u64 a0_1, .string a0_2, .slice A0_3 l0_3.length c0_3] 26 (0, 0)) (by (with_reducible repeat (first | refine kN_ ?_ _ | refine kD_ ?_ | refine kA_ ?_ _)); exact BK312.out) hb); have n1_ := a_ (below_step (by repeat (first | (with_reducible first | exact HB.out | apply bA_ | apply bN_ | apply b1_ | refine bS_ ?_ GE312.out) | exact HB.out)) hb); have n2_ := a_ (hbox); have n3_ := a_ ((by rw [hg]; exact (below_size (by repeat (first | (with_reducible first | exact HB.out | apply bA_ | apply bN_ | apply b1_ | refine bS_ ?_ GE312.out) | exact HB.out))) : w.heap.size ≤ gb364)); have n4_ := a_ ((by rw [hg]; exact (below_size (by repeat (first | (with_reducible first | exact HB.out | apply bA_ | apply bN_ | apply b1_ | refine bS_ ?_ GE312.out) | exact HB.out))) : w.heap.size ≤ gb364)); have n5_ := a_ ((by rw [hg]; exact Nat.ne_of_lt (blk_lt (g := gb312) (o := .cells #[.int .u64 a0_0, .int .u64 a0_1, .string a0_2, .slice A0_3 l0_3.length c0_3] 26 (0, 0)) (by (with_reducible repeat (first | refine kN_ ?_ _ | refine kD_ ?_ | refine kA_ ?_ _)); exact BK312.out)) : gb312 ≠ gb364)); have n6_ := a_ ((by rw [hg]; exact Nat.ne_of_gt (blk_lt (g := gb312) (o := .cells #[.int .u64 a0_0, .int .u64 a0_1, .string a0_2, .slice A0_3 l0_3.length c0_3] 26 (0, 0)) (by (with_reducible repeat (first | refine kN_ ?_ _ | refine kD_ ?_ | refine kA_ ?_ _)); exact BK312.out)) : gb364 ≠ gb312)); clear BK312; clear HB; have BK312 := n0_; have HB := n1_; have BK364 := n2_; have GW364 := n3_; have GE364 := n4_; have NB312_364 := n5_; have NB364_312 := n6_; clear n0_ n1_ n2_ n3_ n4_ n5_ n6_; clear hb hbox hg; have hnb120 := NB364_312.out; have hnc120 := NB312_364.out; have hcz121_0 : w119.cell? ⟨gb364, 0, none⟩ = some (.int .u64 0) := (blk_cell BK364.out 0).trans rfl; have hcz121_1 : w119.cell? ⟨gb364, 1, none⟩ = some (.int .u64 0) := (blk_cell BK364.out 1).trans rfl; have hcz121_2 : w119.cell? ⟨gb364, 2, none⟩ = some (.string (⟨#[]⟩ : ByteArray)) := (blk_cell BK364.out 2).trans rfl; have hcz121_3 : w119.cell? ⟨gb364, 3, none⟩ = some (.slice none 0 0) := (blk_cell BK364.out 3).trans rfl; have hfz121_0 := blk_frozen BK364.out 0; have hfz121_1 := blk_frozen BK364.out 1; have hfz121_2 := blk_frozen BK364.out 2; have hfz121_3 := blk_frozen BK364.out 3))
                    have n0_ : Aside0 (((((w119.setCell ⟨gb364, 0, none⟩ (.int .u64 a0_0)).setCell ⟨gb364, 1, none⟩ (.int .u64 a0_1)).setCell ⟨gb364, 2, none⟩ (.string a0_2)).setCell ⟨gb364, 3, none⟩ (.slice A0_3 l0_3.length c0_3)).heap[gb312]? = some (.cells #[.int .u64 a0_0, .int .u64 a0_1, .string a0_2, .slice A0_3 l0_3.length c0_3] 26 (0, 0))) := ⟨by (with_reducible repeat (first | refine kN_ ?_ _ | refine kD_ ?_ | refine kA_ ?_ _)); refine blk_far ?_ NB312_364.out _; (with_reducible repeat (first | refine kN_ ?_ _ | refine kD_ ?_ | refine kA_ ?_ _)); refine blk_far ?_ NB312_364.out _; (with_reducible repeat (first | refine kN_ ?_ _ | refine kD_ ?_ | refine kA_ ?_ _)); refine blk_far ?_ NB312_364.out _; (with_reducible repeat (first | refine kN_ ?_ _ | refine kD_ ?_ | refine kA_ ?_ _)); refine blk_far ?_ NB312_364.out _; (with_reducible repeat (first | refine kN_ ?_ _ | refine kD_ ?_ | refine kA_ ?_ _)); exact BK312.out⟩
                    have n1_ : Aside0 (((((w119.setCell ⟨gb364, 0, none⟩ (.int .u64 a0_0)).setCell ⟨gb364, 1, none⟩ (.int .u64 a0_1)).setCell ⟨gb364, 2, none⟩ (.string a0_2)).setCell ⟨gb364, 3, none⟩ (.slice A0_3 l0_3.length c0_3)).heap[gb364]? = some (.cells #[.int .u64 a0_0, .int .u64 a0_1, .string a0_2, .slice A0_3 l0_3.length c0_3] 26 (0, 0))) := ⟨by (with_reducible repeat (first | refine kN_ ?_ _ | refine kD_ ?_ | refine kA_ ?_ _)); refine blk_put (cs := #[.int .u64 a0_0, .int .u64 a0_1, .string a0_2, .slice none 0 0]) ?_ 3 _ rfl; (with_reducible repeat (first | refine kN_ ?_ _ | refine kD_ ?_ | refine kA_ ?_ _)); refine blk_put (cs := #[.int .u64 a0_0, .int .u64 a0_1, .string (⟨#[]⟩ : ByteArray), .slice none 0 0]) ?_ 2 _ rfl; (with_reducible repeat (first | refine kN_ ?_ _ | refine kD_ ?_ | refine kA_ ?_ _)); refine blk_put (cs := #[.int .u64 a0_0, .int .u64 0, .string (⟨#[]⟩ : ByteArray), .slice none 0 0]) ?_ 1 _ rfl; (with_reducible repeat (first | refine kN_ ?_ _ | refine kD_ ?_ | refine kA_ ?_ _)); refine blk_put (cs := #[.int .u64 0, .int .u64 0, .string (⟨#[]⟩ : ByteArray), .slice none 0 0]) ?_ 0 _ rfl; (with_reducible repeat (first | refine kN_ ?_ _ | refine kD_ ?_ | refine kA_ ?_ _)); exact BK364.out⟩
                    have n2_ : Aside0 (Below w.heap.size w ((((w119.setCell ⟨gb364, 0, none⟩ (.int .u64 a0_0)).setCell ⟨gb364, 1, none⟩ (.int .u64 a0_1)).setCell ⟨gb364, 2, none⟩ (.string a0_2)).setCell ⟨gb364, 3, none⟩ (.slice A0_3 l0_3.length c0_3))) := ⟨by repeat (first | (with_reducible first | exact HB.out | apply bA_ | apply bN_ | apply b1_ | refine bS_ ?_ GE312.out | refine bS_ ?_ GE364.out) | exact HB.out)⟩
                    (try clear BK312)
                    (try clear BK364)
                    (try clear HB)
                    generalize ((((w119.setCell ⟨gb364, 0, none⟩ (.int .u64 a0_0)).setCell ⟨gb364, 1, none⟩ (.int .u64 a0_1)).setCell ⟨gb364, 2, none⟩ (.string a0_2)).setCell ⟨gb364, 3, none⟩ (.slice A0_3 l0_3.length c0_3)) = w122 at n0_ n1_ n2_ ⊢
                    have BK312 := n0_
                    have BK364 := n1_
                    have HB := n2_
                    clear n0_ n1_ n2_
                    have n0_ := a_ (blk_drew BK312.out)
                    have n1_ := a_ (blk_drew BK364.out)
                    have n2_ := a_ (below_drew1 HB.out)
                    clear BK312
                    clear BK364
                    clear HB
                    have BK312 := n0_
                    have BK364 := n1_
                    have HB := n2_
                    clear n0_ n1_ n2_
                    have q124 : ((ji94) : Int) ≤ ((l0_3.length : Int) : Int) := of_decide_eq_true (by first | (with_reducible assumption) | assumption)
                    obtain ⟨i0124, hi0124, _, hsz124, _⟩ := info_parts info42
                    have hroom124 : l0_3.length ≤ c0_3 := HC0_3.out
                    have hC124 : Kd.C k42 _ A0_3 l0_3.length l0_3 := HR0_3.out
                    have q0124 : (0 : Int) ≤ ((ji94) : Int) := of_decide_eq_true (by first | (with_reducible assumption) | assumption)
                    have hcut124 := cut_from (P := Tryd.prog) 24 42 .i64 Tryd.underlying24 hi0124 3 hsz124 A0_3 l0_3.length c0_3 (ji94) q0124 q124
                    have hr124 := Kd.C_drop (m := ((ji94) : Int).toNat) (c := c0_3) hC124 (by omega) hroom124
                    obtain ⟨A124, hA124⟩ : ∃ A1, A1 = (if c0_3 = ((ji94) : Int).toNat then A0_3 else (A0_3 : Option Addr).map (·.add (((ji94) : Int).toNat * 3))) := ⟨_, rfl⟩
                    obtain ⟨c124, hc124⟩ : ∃ c1, c1 = c0_3 - ((ji94) : Int).toNat := ⟨_, rfl⟩
                    have hy124 : y368.length = l0_3.length - ((ji94) : Int).toNat := (by rw [Ny368.out, List.length_drop] <;> omega)
                    rw [show (l0_3).drop ((ji94) : Int).toNat = y368 from Ny368.out.symm] at hr124
                    replace hr124 : Kd.C k42 _ A124 y368.length y368 := (by rw [hA124]; exact hr124)
                    rw [← hy124, ← hA124, ← hc124] at hcut124
                    have HR371 := a_ hr124
                    have HC371 := a_ (show y368.length ≤ c124 from by rw [hy124, hc124]; exact Nat.sub_le_sub_right hroom124 _)
                    clear hr124 hC124 hroom124 hi0124 hsz124 hc124
                    have KY124 := a_ hy124
                    have KA124 := a_ hA124
                    clear hy124 hA124
                    replace q124 := eq_true q124
                    have q125 : ((ji94) : Int) ≤ ((l0_3.length : Int) : Int) := of_decide_eq_true (by first | (with_reducible assumption) | assumption)
                    obtain ⟨i0125, hi0125, _, hsz125, _⟩ := info_parts info42
                    have hroom125 : l0_3.length ≤ c0_3 := HC0_3.out
                    have hC125 : Kd.C k42 _ A0_3 l0_3.length l0_3 := HR0_3.out
                    have hcut125 := cut_to (P := Tryd.prog) 24 42 .i64 Tryd.underlying24 hi0125 A0_3 l0_3.length c0_3 (ji94) (of_decide_eq_true (by first | (with_reducible assumption) | assumption)) q125 hroom125
                    have hr125 := Kd.C_take (m := ((ji94) : Int).toNat) hC125 (by omega)
                    have hy125 : y375.length = ((ji94) : Int).toNat := (by rw [Ny375.out, List.length_take]; omega)
                    rw [← Ny375.out] at hr125
                    rw [← hy125] at hcut125
                    have HR378 := a_ hr125
                    have HC378 := a_ (show y375.length ≤ c0_3 from by omega)
                    clear hr125 hC125 hroom125 hi0125 hsz125
                    have KY125 := a_ hy125
                    clear hy125
                    replace q125 := eq_true q125
                    refine start_ (n := 13) (S := fun w' => w'.cell? ⟨gb312, 0, none⟩ = some (.int .u64 a0_0) ∧ w'.cell? ⟨gb312, 1, none⟩ = some (.int .u64 a0_1) ∧ w'.cell? ⟨gb312, 2, none⟩ = some (.string a0_2) ∧ w'.cell? ⟨gb312, 3, none⟩ = some (.slice A0_3 l0_3.length c0_3)) (ds := []) #[false, false, false, false, false, false, false, false, false, false, false, false, false] (by kernel_rfl) rfl rfl ⟨(blk_cell BK312.out 0).trans rfl, (blk_cell BK312.out 1).trans rfl, (blk_cell BK312.out 2).trans rfl, (blk_cell BK312.out 3).trans rfl⟩ (fun hHeld => ?_); refine with_tabW cambistlaw12_JournalLegs.tab8 cambistlaw12_JournalLegs.bits8 (fun HT_ HW_ => ?_)
                    generalize w122.drew = w123 at BK312 BK364 HB HR371 HR378 hHeld ⊢
                    refine pure_ (i := 1) (N := some 33) (v := ?_) (a' := ?_) (fl_ 13 2) rfl rfl (any_of HT_.out (by kernel_rfl)) (fun _ _ _ h => h) (Or.inl ⟨by rfl, ?_⟩) ?_ ?_
                    rotate_left
                    ·intro w'
                     go_simp
                     with_reducible rfl
                    rotate_left
                    ·simp only [Act.put, sT_, s0_, sS_, i64_w, i32_w]
                     rfl
                    refine pure_ (i := 3) (N := some 35) (v := ?_) (a' := ?_) (fl_ 13 10) rfl rfl (any_of HT_.out (by kernel_rfl)) (fun _ _ _ h => h) (Or.inl ⟨by rfl, ?_⟩) ?_ ?_
                    rotate_left
                    ·intro w'
                     go_simp
                     with_reducible rfl
                    rotate_left
                    ·simp only [Act.put, sT_, s0_, sS_, i64_w, i32_w]
                     rfl
                    refine pure_ (i := 6) (N := some 38) (v := ?_) (a' := ?_) (fl_ 13 74) rfl rfl (any_of HT_.out (by kernel_rfl)) (fun _ _ _ h => h) (Or.inl ⟨by rfl, ?_⟩) ?_ ?_
                    rotate_left
                    ·intro w'
                     go_simp
                     with_reducible rfl
                    rotate_left
                    ·simp only [Act.put, sT_, s0_, sS_, i64_w, i32_w]
                     rfl
                    refine pure_ (i := 8) (N := some 40) (v := ?_) (a' := ?_) (fl_ 13 330) rfl rfl (any_of HT_.out (by kernel_rfl)) (fun _ _ _ h => h) (Or.inl ⟨by rfl, ?_⟩) ?_ ?_
                    rotate_left
                    ·intro w'
                     go_simp
                     with_reducible rfl
                    rotate_left
                    ·simp only [Act.put, sT_, s0_, sS_, i64_w, i32_w]
                     rfl
                    refine take_ (i := 2) (N := some 34) (v := ?_) (a' := ?_) (fl_ 13 334) rfl rfl (take_ofW HT_.out HW_.out (by kernel_rfl)) (fun _ _ _ h => h) (Or.inl ⟨by rfl, ?_⟩) hHeld ?_ ?_
                    rotate_left
                    ·rintro w' ⟨s0, s1, s2, s3⟩
                     go_simp
                     with_reducible rfl
                    rotate_left
                    ·simp only [Act.put, sT_, s0_, sS_, i64_w, i32_w]
                     rfl
                    refine pure_ (i := 4) (N := some 36) (v := ?_) (a' := ?_) (fl_ 13 350) rfl rfl (any_of HT_.out (by kernel_rfl)) (fun _ _ _ h => h) (Or.inl ⟨by rfl, ?_⟩) ?_ ?_
                    rotate_left
                    ·intro w'
                     go_simp
                     with_reducible rfl
                    rotate_left
                    ·simp only [Act.put, sT_, s0_, sS_, i64_w, i32_w]
                     rfl
                    refine take_ (i := 7) (N := some 39) (v := ?_) (a' := ?_) (fl_ 13 478) rfl rfl (take_ofW HT_.out HW_.out (by kernel_rfl)) (fun _ _ _ h => h) (Or.inl ⟨by rfl, ?_⟩) hHeld ?_ ?_
                    rotate_left
                    ·rintro w' ⟨s0, s1, s2, s3⟩
                     go_simp
                     with_reducible rfl
                    rotate_left
                    ·simp only [Act.put, sT_, s0_, sS_, i64_w, i32_w]
                     rfl
                    refine pure_ (i := 9) (N := some 41) (v := ?_) (a' := ?_) (fl_ 13 990) rfl rfl (any_of HT_.out (by kernel_rfl)) (fun _ _ _ h => h) (Or.inl ⟨by rfl, ?_⟩) ?_ ?_
                    rotate_left
                    ·intro w'
                     go_simp
                     with_reducible rfl
                    rotate_left
                    ·simp only [Act.put, sT_, s0_, sS_, i64_w, i32_w]
                     rfl
                    refine one_ (i := 0) (N := some 32) (fl_ 13 991) rfl rfl (one_of HT_.out (by kernel_rfl)) (by decide) (fun K hK => ?_)
                    refine Kd.R_lit_step k42 _ 42 ?hg (N := 32) ?hd (xs := ([] : List (S42))) (inner := []) (ok := fun _ => True) (okp := fun _ => True) ?hr ?hp (fun _ hk => hk) trivial (Below.refl _ _) (Nat.le_refl _) (by simp) ?_; (case hd => rfl); (case hg => rfl); (case hr => first | (go_simp; done) | (go_simp; rfl)); (case hp => exact (Reps.none _ _))
                    intro v366 w126 ho127 hb hg_ hnew_
                    clear hg_ hnew_
                    (first | rw [← Ny365.out] at ho127 | (simp only [Int.reduceToNat] at ho127; rw [← Ny365.out] at ho127))
                    have n0_ := a_ (Kd.R_lower ho127 (below_size (by repeat (first | (with_reducible first | exact HB.out | apply bA_ | apply bN_ | apply b1_ | refine bS_ ?_ GE312.out | refine bS_ ?_ GE364.out) | exact HB.out))))
                    have n1_ := a_ (blk_below (g := gb312) (o := .cells #[.int .u64 a0_0, .int .u64 a0_1, .string a0_2, .slice A0_3 l0_3.length c0_3] 26 (0, 0)) (by (with_reducible repeat (first | refine kN_ ?_ _ | refine kD_ ?_ | refine kA_ ?_ _)); exact BK312.out) hb)
                    have n2_ := a_ (blk_below (g := gb364) (o := .cells #[.int .u64 a0_0, .int .u64 a0_1, .string a0_2, .slice A0_3 l0_3.length c0_3] 26 (0, 0)) (by (with_reducible repeat (first | refine kN_ ?_ _ | refine kD_ ?_ | refine kA_ ?_ _)); exact BK364.out) hb)
                    have n3_ := a_ (below_step (by repeat (first | (with_reducible first | exact HB.out | apply bA_ | apply bN_ | apply b1_ | refine bS_ ?_ GE312.out | refine bS_ ?_ GE364.out) | exact HB.out)) hb)
                    clear BK312
                    clear BK364
                    clear HB
                    have HO367 := n0_
                    have BK312 := n1_
                    have BK364 := n2_
                    have HB := n3_
                    clear n0_ n1_ n2_ n3_
                    clear hb ho127
                    refine hK.out _ _ ⟨(blk_cell BK312.out 0).trans rfl, (blk_cell BK312.out 1).trans rfl, (blk_cell BK312.out 2).trans rfl, (blk_cell BK312.out 3).trans rfl⟩ (fun hHeld => ?_)
                    clear hK K
                    refine norm_ (a' := ?_) ?_ ?_
                    rotate_left
                    ·show Act.put _ (some 32) _ = _
                     simp only [Act.put, sT_, s0_, sS_, i64_w, i32_w]
                     rfl
                    refine one_ (i := 5) (N := some 37) (fl_ 13 1023) rfl rfl (one_of HT_.out (by kernel_rfl)) (by decide) (fun K hK => ?_)
                    refine Kd.R_append_rows_step k42 (w0 := w) w.heap.size (by rfl) (.tmp 32) (.tmp 36) 24 42 (.agg #[(.string ⟨#[]⟩), (.string ⟨#[]⟩), (.int .i64 0)]) 40 rfl Tryd.underlying24 info42 rfl (by decide) (by omega) v366 y365 y368 _ _ _ (fun _ => True) (fun _ => False) rfl rfl ?aO ?aR (fun _ _ h => h) (fun _ h => h.elim) ?aF ?aB ?aS ?aL ?_
                    (case aR => repeat (first | exact (Kd.C_below HR371.out HB.out) | (with_reducible refine Kd.C_alloc ?_ _) | (with_reducible refine Kd.C_drewN ?_ _) | (with_reducible refine Kd.C_drew ?_)))
                    (case aB => exact (by repeat (first | (with_reducible first | exact HB.out | apply bA_ | apply bN_ | apply b1_ | refine bS_ ?_ GE312.out | refine bS_ ?_ GE364.out) | exact HB.out)))
                    (case aF => exact (fun _ _ => trivial))
                    (case aO => exact (by (with_reducible repeat (first | apply Kd.R_alloc | apply Kd.R_drewN | apply Kd.R_drew)); exact HO367.out))
                    (case aS => exact (below_size (by repeat (first | (with_reducible first | exact HB.out | apply bA_ | apply bN_ | apply b1_ | refine bS_ ?_ GE312.out | refine bS_ ?_ GE364.out) | exact HB.out))))
                    (case aL => have := LMc97.out; omega)
                    intro v373 w128 ho hb hg hat
                    rw [← Ny372.out] at ho
                    have n0_ := a_ (blk_grown (g := gb312) (o := .cells #[.int .u64 a0_0, .int .u64 a0_1, .string a0_2, .slice A0_3 l0_3.length c0_3] 26 (0, 0)) (by (with_reducible repeat (first | refine kN_ ?_ _ | refine kD_ ?_ | refine kA_ ?_ _)); exact BK312.out) hg (Kd.R_ne HO367.out BK312.out (by decide)))
                    have n1_ := a_ (blk_grown (g := gb364) (o := .cells #[.int .u64 a0_0, .int .u64 a0_1, .string a0_2, .slice A0_3 l0_3.length c0_3] 26 (0, 0)) (by (with_reducible repeat (first | refine kN_ ?_ _ | refine kD_ ?_ | refine kA_ ?_ _)); exact BK364.out) hg (Kd.R_ne HO367.out BK364.out (by decide)))
                    have n2_ := a_ (hb)
                    have n3_ := a_ (ho)
                    clear BK312
                    clear BK364
                    clear HB
                    clear HO367
                    have BK312 := n0_
                    have BK364 := n1_
                    have HB := n2_
                    have HO374 := n3_
                    clear n0_ n1_ n2_ n3_
                    clear ho hb hg hat
                    refine hK.out _ _ ⟨(blk_cell BK312.out 0).trans rfl, (blk_cell BK312.out 1).trans rfl, (blk_cell BK312.out 2).trans rfl, (blk_cell BK312.out 3).trans rfl⟩ (fun hHeld => ?_)
                    clear hK K
                    refine norm_ (a' := ?_) ?_ ?_
                    rotate_left
                    ·show Act.put _ (some 37) _ = _
                     simp only [Act.put, sT_, s0_, sS_, i64_w, i32_w]
                     rfl
                    refine one_ (i := 10) (N := some 42) (fl_ 13 2047) rfl rfl (one_of HT_.out (by kernel_rfl)) (by decide) (fun K hK => ?_)
                    refine Kd.R_append_rows_step k42 (w0 := w) w.heap.size (by rfl) (.tmp 37) (.tmp 41) 24 42 (.agg #[(.string ⟨#[]⟩), (.string ⟨#[]⟩), (.int .i64 0)]) 40 rfl Tryd.underlying24 info42 rfl (by decide) (by omega) v373 y372 y375 _ _ _ (fun _ => True) (fun _ => False) rfl rfl ?aO ?aR (fun _ _ h => h) (fun _ h => h.elim) ?aF ?aB ?aS ?aL ?_
                    (case aR => repeat (first | exact (Kd.C_below HR378.out HB.out) | (with_reducible refine Kd.C_alloc ?_ _) | (with_reducible refine Kd.C_drewN ?_ _) | (with_reducible refine Kd.C_drew ?_)))
                    (case aB => exact (by repeat (first | (with_reducible first | exact HB.out | apply bA_ | apply bN_ | apply b1_ | refine bS_ ?_ GE312.out | refine bS_ ?_ GE364.out) | exact HB.out)))
                    (case aF => exact (fun _ _ => trivial))
                    (case aO => exact (by (with_reducible repeat (first | apply Kd.R_alloc | apply Kd.R_drewN | apply Kd.R_drew)); exact HO374.out))
                    (case aS => exact (below_size (by repeat (first | (with_reducible first | exact HB.out | apply bA_ | apply bN_ | apply b1_ | refine bS_ ?_ GE312.out | refine bS_ ?_ GE364.out) | exact HB.out))))
                    (case aL => have := LMc100.out; omega)
                    intro v380 w129 ho hb hg hat
                    rw [← Ny379.out] at ho
                    have n0_ := a_ (blk_grown (g := gb312) (o := .cells #[.int .u64 a0_0, .int .u64 a0_1, .string a0_2, .slice A0_3 l0_3.length c0_3] 26 (0, 0)) (by (with_reducible repeat (first | refine kN_ ?_ _ | refine kD_ ?_ | refine kA_ ?_ _)); exact BK312.out) hg (Kd.R_ne HO374.out BK312.out (by decide)))
                    have n1_ := a_ (blk_grown (g := gb364) (o := .cells #[.int .u64 a0_0, .int .u64 a0_1, .string a0_2, .slice A0_3 l0_3.length c0_3] 26 (0, 0)) (by (with_reducible repeat (first | refine kN_ ?_ _ | refine kD_ ?_ | refine kA_ ?_ _)); exact BK364.out) hg (Kd.R_ne HO374.out BK364.out (by decide)))
                    have n2_ := a_ (hb)
                    have n3_ := a_ (ho)
                    clear BK312
                    clear BK364
                    clear HB
                    clear HO374
                    have BK312 := n0_
                    have BK364 := n1_
                    have HB := n2_
                    have HO381 := n3_
                    clear n0_ n1_ n2_ n3_
                    clear ho hb hg hat
                    obtain ⟨Ao130, co130, eo130⟩ := Kd.R_slice HO381.out
                    (first | subst eo130 | (injection eo130 with f1_ f2_ f3_; have f4_ := f1_.symm; have f5_ := f3_.symm; clear f1_ f2_ f3_; subst f4_; subst f5_))
                    refine hK.out _ _ ⟨(blk_cell BK312.out 0).trans rfl, (blk_cell BK312.out 1).trans rfl, (blk_cell BK312.out 2).trans rfl, (blk_cell BK312.out 3).trans rfl⟩ (fun hHeld => ?_)
                    clear hK K
                    refine norm_ (a' := ?_) ?_ ?_
                    rotate_left
                    ·show Act.put _ (some 42) _ = _
                     simp only [Act.put, sT_, s0_, sS_, i64_w, i32_w]
                     rfl
                    refine pure_ (i := 11) (N := some 43) (v := ?_) (a' := ?_) (fl_ 13 4095) rfl rfl (any_of HT_.out (by kernel_rfl)) (fun _ _ _ h => h) (Or.inl ⟨by rfl, ?_⟩) ?_ ?_
                    rotate_left
                    ·intro w'
                     go_simp
                     with_reducible rfl
                    rotate_left
                    ·simp only [Act.put, sT_, s0_, sS_, i64_w, i32_w]
                     rfl
                    refine one_ (i := 12) (N := none) (fl_ 13 8191) rfl rfl (one_of HT_.out (by kernel_rfl)) (by decide) (fun K hK => ?_)
                    have hs131 : w129.cell? ⟨gb364, 3, none⟩ = some (.slice A0_3 l0_3.length c0_3) := (blk_cell BK364.out 3).trans rfl
                    have hfs131 := blk_frozen BK364.out 3
                    have hns131_0 := NB312_364.out
                    have hms131_0 := NB364_312.out
                    refine skip_ (w1 := ?_) (by rfl) rfl ?_ ?_
                    rotate_left
                    ·go_simp
                     rfl
                    refine hK.out _ _ ⟨((cell_far (p := ⟨gb364, _, none⟩) NB312_364.out _).trans (hHeld.1)), ((cell_far (p := ⟨gb364, _, none⟩) NB312_364.out _).trans (hHeld.2.1)), ((cell_far (p := ⟨gb364, _, none⟩) NB312_364.out _).trans (hHeld.2.2.1)), ((cell_far (p := ⟨gb364, _, none⟩) NB312_364.out _).trans (hHeld.2.2.2))⟩ (fun hHeld => ?_)
                    clear hK K
                    refine done_ (done_of HT_.out (by kernel_rfl)) ?_
                    have hcz132_0 : w129.cell? ⟨gb312, 0, none⟩ = some (.int .u64 a0_0) := (blk_cell BK312.out 0).trans rfl
                    have hcz132_1 : w129.cell? ⟨gb312, 1, none⟩ = some (.int .u64 a0_1) := (blk_cell BK312.out 1).trans rfl
                    have hcz132_2 : w129.cell? ⟨gb312, 2, none⟩ = some (.string a0_2) := (blk_cell BK312.out 2).trans rfl
                    have hcz132_3 : w129.cell? ⟨gb312, 3, none⟩ = some (.slice A0_3 l0_3.length c0_3) := (blk_cell BK312.out 3).trans rfl
                    have hfz132_0 := blk_frozen BK312.out 0
                    have hfz132_1 := blk_frozen BK312.out 1
                    have hfz132_2 := blk_frozen BK312.out 2
                    have hfz132_3 := blk_frozen BK312.out 3
                    try go_wp2_with (first | ((with_reducible refine gate_dst (N := 9) rfl ?_); refine box_event ?hg (N := 9) ?hd (cs := #[.int .u64 0, .int .u64 0, .string (⟨#[]⟩ : ByteArray), .slice none 0 0]) (t := 26) ?hr ?_; (case hd => rfl); (case hg => rfl); (case hr => first | (go_simp; done) | (go_simp; rfl)); intro gb382 hg w133 hbox hb; have n0_ := a_ (Kd.R_below (by (with_reducible repeat (first | apply Kd.R_alloc | apply Kd.R_drewN | apply Kd.R_drew)); exact (Kd.R_mono (Kd.R_far (p := ⟨gb364, 3, none⟩) (Kd.R_types HO381.out BK364.out (by decide)) (fun _ hk => hk.2) (.slice Ao130 y379.length co130)) (fun _ h_ => h_.1))) hb); have n1_ := a_ (blk_below (g := gb312) (o := .cells #[.int .u64 a0_0, .int .u64 a0_1, .string a0_2, .slice A0_3 l0_3.length c0_3] 26 (0, 0)) (by (with_reducible repeat (first | refine kN_ ?_ _ | refine kD_ ?_ | refine kA_ ?_ _)); refine blk_far ?_ NB312_364.out _; (with_reducible repeat (first | refine kN_ ?_ _ | refine kD_ ?_ | refine kA_ ?_ _)); exact BK312.out) hb); have n2_ := a_ (blk_below (g := gb364) (o := .cells #[.int .u64 a0_0, .int .u64 a0_1, .string a0_2, .slice Ao130 y379.length co130] 26 (0, 0)) (by (with_reducible repeat (first | refine kN_ ?_ _ | refine kD_ ?_ | refine kA_ ?_ _)); refine blk_put (cs := #[.int .u64 a0_0, .int .u64 a0_1, .string a0_2, .slice A0_3 l0_3.length c0_3]) ?_ 3 _ rfl; (with_reducible repeat (first | refine kN_ ?_ _ | refine kD_ ?_ | refine kA_ ?_ _)); exact BK364.out) hb); have n3_ := a_ (below_step (by repeat (first | (with_reducible first | exact HB.out | apply bA_ | apply bN_ | apply b1_ | refine bS_ ?_ GE312.out | refine bS_ ?_ GE364.out) | exact HB.out)) hb); have n4_ := a_ (hbox); have n5_ := a_ ((by rw [hg]; exact (below_size (by repeat (first | (with_reducible first | exact HB.out | apply bA_ | apply bN_ | apply b1_ | refine bS_ ?_ GE312.out | refine bS_ ?_ GE364.out) | exact HB.out))) : w.heap.size ≤ gb382)); have n6_ := a_ ((by rw [hg]; exact (below_size (by repeat (first | (with_reducible first | exact HB.out | apply bA_ | apply bN_ | apply b1_ | refine bS_ ?_ GE312.out | refine bS_ ?_ GE364.out) | exact HB.out))) : w.heap.size ≤ gb382)); have n7_ := a_ ((by rw [hg]; exact Nat.ne_of_lt (blk_lt (g := gb312) (o := .cells #[.int .u64 a0_0, .int .u64 a0_1, .string a0_2, .slice A0_3 l0_3.length c0_3] 26 (0, 0)) (by (with_reducible repeat (first | refine kN_ ?_ _ | refine kD_ ?_ | refine kA_ ?_ _)); refine blk_far ?_ NB312_364.out _; (with_reducible repeat (first | refine kN_ ?_ _ | refine kD_ ?_ | refine kA_ ?_ _)); exact BK312.out)) : gb312 ≠ gb382)); have n8_ := a_ ((by rw [hg]; exact Nat.ne_of_gt (blk_lt (g := gb312) (o := .cells #[.int .u64 a0_0, .int .u64 a0_1, .string a0_2, .slice A0_3 l0_3.length c0_3] 26 (0, 0)) (by (with_reducible repeat (first | refine kN_ ?_ _ | refine kD_ ?_ | refine kA_ ?_ _)); refine blk_far ?_ NB312_364.out _; (with_reducible repeat (first | refine kN_ ?_ _ | refine kD_ ?_ | refine kA_ ?_ _)); exact BK312.out)) : gb382 ≠ gb312)); have n9_ := a_ ((by rw [hg]; exact Nat.ne_of_lt (blk_lt (g := gb364) (o := .cells #[.int .u64 a0_0, .int .u64 a0_1, .string a0_2, .slice Ao130 y379.length co130] 26 (0, 0)) (by (with_reducible repeat (first | refine kN_ ?_ _ | refine kD_ ?_ | refine kA_ ?_ _)); refine blk_put (cs := #[.int .u64 a0_0, .int .u64 a0_1, .string a0_2, .slice A0_3 l0_3.length c0_3]) ?_ 3 _ rfl; (with_reducible repeat (first | refine kN_ ?_ _ | refine kD_ ?_ | refine kA_ ?_ _)); exact BK364.out)) : gb364 ≠ gb382)); have n10_ := a_ ((by rw [hg]; exact Nat.ne_of_gt (blk_lt (g := gb364) (o := .cells #[.int .u64 a0_0, .int .u64 a0_1, .string a0_2, .slice Ao130 y379.length co130] 26 (0, 0)) (by (with_reducible repeat (first | refine kN_ ?_ _ | refine kD_ ?_ | refine kA_ ?_ _)); refine blk_put (cs := #[.int .u64 a0_0, .int .u64 a0_1, .string a0_2, .slice A0_3 l0_3.length c0_3]) ?_ 3 _ rfl; (with_reducible repeat (first | refine kN_ ?_ _ | refine kD_ ?_ | refine kA_ ?_ _)); exact BK364.out)) : gb382 ≠ gb364)); clear HO381; clear BK312; clear BK364; clear HB; have HO381 := n0_; have BK312 := n1_; have BK364 := n2_; have HB := n3_; have BK382 := n4_; have GW382 := n5_; have GE382 := n6_; have NB312_382 := n7_; have NB382_312 := n8_; have NB364_382 := n9_; have NB382_364 := n10_; clear n0_ n1_ n2_ n3_ n4_ n5_ n6_ n7_ n8_ n9_ n10_; clear hb hbox hg; have hnb134 := NB382_312.out; have hnc134 := NB312_382.out; have hnb135 := NB382_364.out; have hnc135 := NB364_382.out; have hcz136_0 : w133.cell? ⟨gb382, 0, none⟩ = some (.int .u64 0) := (blk_cell BK382.out 0).trans rfl; have hcz136_1 : w133.cell? ⟨gb382, 1, none⟩ = some (.int .u64 0) := (blk_cell BK382.out 1).trans rfl; have hcz136_2 : w133.cell? ⟨gb382, 2, none⟩ = some (.string (⟨#[]⟩ : ByteArray)) := (blk_cell BK382.out 2).trans rfl; have hcz136_3 : w133.cell? ⟨gb382, 3, none⟩ = some (.slice none 0 0) := (blk_cell BK382.out 3).trans rfl; have hfz136_0 := blk_frozen BK382.out 0; have hfz136_1 := blk_frozen BK382.out 1; have hfz136_2 := blk_frozen BK382.out 2; have hfz136_3 := blk_frozen BK382.out 3))
                    have n0_ : Aside0 (Kd.R k42 42 ((((w133.setCell ⟨gb382, 0, none⟩ (.int .u64 a0_0)).setCell ⟨gb382, 1, none⟩ (.int .u64 a0_1)).setCell ⟨gb382, 2, none⟩ (.string a0_2)).setCell ⟨gb382, 3, none⟩ (.slice A0_3 l0_3.length c0_3)) w.heap.size (fun _ => True) (.slice Ao130 y379.length co130) y379) := ⟨by (with_reducible repeat (first | apply Kd.R_alloc | apply Kd.R_drewN | apply Kd.R_drew)); exact Kd.R_mono (Kd.R_far (p := ⟨gb382, 3, none⟩) (Kd.R_far (p := ⟨gb382, 2, none⟩) (Kd.R_far (p := ⟨gb382, 1, none⟩) (Kd.R_far (p := ⟨gb382, 0, none⟩) (Kd.R_types HO381.out BK382.out (by decide)) (fun _ hk => hk.2) (.int .u64 a0_0)) (fun _ hk => hk.2) (.int .u64 a0_1)) (fun _ hk => hk.2) (.string a0_2)) (fun _ hk => hk.2) (.slice A0_3 l0_3.length c0_3)) (fun _ hk => trivial)⟩
                    have n1_ : Aside0 (((((w133.setCell ⟨gb382, 0, none⟩ (.int .u64 a0_0)).setCell ⟨gb382, 1, none⟩ (.int .u64 a0_1)).setCell ⟨gb382, 2, none⟩ (.string a0_2)).setCell ⟨gb382, 3, none⟩ (.slice A0_3 l0_3.length c0_3)).heap[gb312]? = some (.cells #[.int .u64 a0_0, .int .u64 a0_1, .string a0_2, .slice A0_3 l0_3.length c0_3] 26 (0, 0))) := ⟨by (with_reducible repeat (first | refine kN_ ?_ _ | refine kD_ ?_ | refine kA_ ?_ _)); refine blk_far ?_ NB312_382.out _; (with_reducible repeat (first | refine kN_ ?_ _ | refine kD_ ?_ | refine kA_ ?_ _)); refine blk_far ?_ NB312_382.out _; (with_reducible repeat (first | refine kN_ ?_ _ | refine kD_ ?_ | refine kA_ ?_ _)); refine blk_far ?_ NB312_382.out _; (with_reducible repeat (first | refine kN_ ?_ _ | refine kD_ ?_ | refine kA_ ?_ _)); refine blk_far ?_ NB312_382.out _; (with_reducible repeat (first | refine kN_ ?_ _ | refine kD_ ?_ | refine kA_ ?_ _)); exact BK312.out⟩
                    have n2_ : Aside0 (((((w133.setCell ⟨gb382, 0, none⟩ (.int .u64 a0_0)).setCell ⟨gb382, 1, none⟩ (.int .u64 a0_1)).setCell ⟨gb382, 2, none⟩ (.string a0_2)).setCell ⟨gb382, 3, none⟩ (.slice A0_3 l0_3.length c0_3)).heap[gb364]? = some (.cells #[.int .u64 a0_0, .int .u64 a0_1, .string a0_2, .slice Ao130 y379.length co130] 26 (0, 0))) := ⟨by (with_reducible repeat (first | refine kN_ ?_ _ | refine kD_ ?_ | refine kA_ ?_ _)); refine blk_far ?_ NB364_382.out _; (with_reducible repeat (first | refine kN_ ?_ _ | refine kD_ ?_ | refine kA_ ?_ _)); refine blk_far ?_ NB364_382.out _; (with_reducible repeat (first | refine kN_ ?_ _ | refine kD_ ?_ | refine kA_ ?_ _)); refine blk_far ?_ NB364_382.out _; (with_reducible repeat (first | refine kN_ ?_ _ | refine kD_ ?_ | refine kA_ ?_ _)); refine blk_far ?_ NB364_382.out _; (with_reducible repeat (first | refine kN_ ?_ _ | refine kD_ ?_ | refine kA_ ?_ _)); exact BK364.out⟩
                    have n3_ : Aside0 (((((w133.setCell ⟨gb382, 0, none⟩ (.int .u64 a0_0)).setCell ⟨gb382, 1, none⟩ (.int .u64 a0_1)).setCell ⟨gb382, 2, none⟩ (.string a0_2)).setCell ⟨gb382, 3, none⟩ (.slice A0_3 l0_3.length c0_3)).heap[gb382]? = some (.cells #[.int .u64 a0_0, .int .u64 a0_1, .string a0_2, .slice A0_3 l0_3.length c0_3] 26 (0, 0))) := ⟨by (with_reducible repeat (first | refine kN_ ?_ _ | refine kD_ ?_ | refine kA_ ?_ _)); refine blk_put (cs := #[.int .u64 a0_0, .int .u64 a0_1, .string a0_2, .slice none 0 0]) ?_ 3 _ rfl; (with_reducible repeat (first | refine kN_ ?_ _ | refine kD_ ?_ | refine kA_ ?_ _)); refine blk_put (cs := #[.int .u64 a0_0, .int .u64 a0_1, .string (⟨#[]⟩ : ByteArray), .slice none 0 0]) ?_ 2 _ rfl; (with_reducible repeat (first | refine kN_ ?_ _ | refine kD_ ?_ | refine kA_ ?_ _)); refine blk_put (cs := #[.int .u64 a0_0, .int .u64 0, .string (⟨#[]⟩ : ByteArray), .slice none 0 0]) ?_ 1 _ rfl; (with_reducible repeat (first | refine kN_ ?_ _ | refine kD_ ?_ | refine kA_ ?_ _)); refine blk_put (cs := #[.int .u64 0, .int .u64 0, .string (⟨#[]⟩ : ByteArray), .slice none 0 0]) ?_ 0 _ rfl; (with_reducible repeat (first | refine kN_ ?_ _ | refine kD_ ?_ | refine kA_ ?_ _)); exact BK382.out⟩
                    have n4_ : Aside0 (Below w.heap.size w ((((w133.setCell ⟨gb382, 0, none⟩ (.int .u64 a0_0)).setCell ⟨gb382, 1, none⟩ (.int .u64 a0_1)).setCell ⟨gb382, 2, none⟩ (.string a0_2)).setCell ⟨gb382, 3, none⟩ (.slice A0_3 l0_3.length c0_3))) := ⟨by repeat (first | (with_reducible first | exact HB.out | apply bA_ | apply bN_ | apply b1_ | refine bS_ ?_ GE312.out | refine bS_ ?_ GE364.out | refine bS_ ?_ GE382.out) | exact HB.out)⟩
                    (try clear HO381)
                    (try clear BK312)
                    (try clear BK364)
                    (try clear BK382)
                    (try clear HB)
                    generalize ((((w133.setCell ⟨gb382, 0, none⟩ (.int .u64 a0_0)).setCell ⟨gb382, 1, none⟩ (.int .u64 a0_1)).setCell ⟨gb382, 2, none⟩ (.string a0_2)).setCell ⟨gb382, 3, none⟩ (.slice A0_3 l0_3.length c0_3)) = w137 at n0_ n1_ n2_ n3_ n4_ ⊢
                    have HO381 := n0_
                    have BK312 := n1_
                    have BK364 := n2_
                    have BK382 := n3_
                    have HB := n4_
                    clear n0_ n1_ n2_ n3_ n4_
                    have n0_ := a_ (Kd.R_drew HO381.out)
                    have n1_ := a_ (blk_drew BK312.out)
                    have n2_ := a_ (blk_drew BK364.out)
                    have n3_ := a_ (blk_drew BK382.out)
                    have n4_ := a_ (below_drew1 HB.out)
                    clear HO381
                    clear BK312
                    clear BK364
                    clear BK382
                    clear HB
                    have HO381 := n0_
                    have BK312 := n1_
                    have BK364 := n2_
                    have BK382 := n3_
                    have HB := n4_
                    clear n0_ n1_ n2_ n3_ n4_
                    have q139 : ((ji94) : Int) ≤ ((l0_3.length : Int) : Int) := of_decide_eq_true (by first | (with_reducible assumption) | assumption)
                    obtain ⟨i0139, hi0139, _, hsz139, _⟩ := info_parts info42
                    have hroom139 : l0_3.length ≤ c0_3 := HC0_3.out
                    have hC139 : Kd.C k42 _ A0_3 l0_3.length l0_3 := HR0_3.out
                    have hcut139 := cut_to (P := Tryd.prog) 24 42 .i64 Tryd.underlying24 hi0139 A0_3 l0_3.length c0_3 (ji94) (of_decide_eq_true (by first | (with_reducible assumption) | assumption)) q139 hroom139
                    have hr139 := Kd.C_take (m := ((ji94) : Int).toNat) hC139 (by omega)
                    have hy139 : y386.length = ((ji94) : Int).toNat := (by rw [Ny386.out, List.length_take]; omega)
                    rw [← Ny386.out] at hr139
                    rw [← hy139] at hcut139
                    have HR389 := a_ hr139
                    have HC389 := a_ (show y386.length ≤ c0_3 from by omega)
                    clear hr139 hC139 hroom139 hi0139 hsz139
                    have KY139 := a_ hy139
                    clear hy139
                    replace q139 := eq_true q139
                    have q140 : ((ji104) : Int) ≤ ((l0_3.length : Int) : Int) := of_decide_eq_true (by first | (with_reducible assumption) | assumption)
                    obtain ⟨i0140, hi0140, _, hsz140, _⟩ := info_parts info42
                    have hroom140 : l0_3.length ≤ c0_3 := HC0_3.out
                    have hC140 : Kd.C k42 _ A0_3 l0_3.length l0_3 := HR0_3.out
                    have q0140 : (0 : Int) ≤ ((ji104) : Int) := of_decide_eq_true (by first | (with_reducible assumption) | assumption)
                    have hcut140 := cut_from (P := Tryd.prog) 24 42 .i64 Tryd.underlying24 hi0140 3 hsz140 A0_3 l0_3.length c0_3 (ji104) q0140 q140
                    have hr140 := Kd.C_drop (m := ((ji104) : Int).toNat) (c := c0_3) hC140 (by omega) hroom140
                    obtain ⟨A140, hA140⟩ : ∃ A1, A1 = (if c0_3 = ((ji104) : Int).toNat then A0_3 else (A0_3 : Option Addr).map (·.add (((ji104) : Int).toNat * 3))) := ⟨_, rfl⟩
                    obtain ⟨c140, hc140⟩ : ∃ c1, c1 = c0_3 - ((ji104) : Int).toNat := ⟨_, rfl⟩
                    have hy140 : y393.length = l0_3.length - ((ji104) : Int).toNat := (by rw [Ny393.out, List.length_drop] <;> omega)
                    rw [show (l0_3).drop ((ji104) : Int).toNat = y393 from Ny393.out.symm] at hr140
                    replace hr140 : Kd.C k42 _ A140 y393.length y393 := (by rw [hA140]; exact hr140)
                    rw [← hy140, ← hA140, ← hc140] at hcut140
                    have HR396 := a_ hr140
                    have HC396 := a_ (show y393.length ≤ c140 from by rw [hy140, hc140]; exact Nat.sub_le_sub_right hroom140 _)
                    clear hr140 hC140 hroom140 hi0140 hsz140 hc140
                    have KY140 := a_ hy140
                    have KA140 := a_ hA140
                    clear hy140 hA140
                    replace q140 := eq_true q140
                    refine start_ (n := 14) (S := fun w' => w'.cell? ⟨gb312, 0, none⟩ = some (.int .u64 a0_0) ∧ w'.cell? ⟨gb312, 1, none⟩ = some (.int .u64 a0_1) ∧ w'.cell? ⟨gb312, 2, none⟩ = some (.string a0_2) ∧ w'.cell? ⟨gb312, 3, none⟩ = some (.slice A0_3 l0_3.length c0_3)) (ds := []) #[false, false, false, false, false, false, false, false, false, false, false, false, false, false] (by kernel_rfl) rfl rfl ⟨(blk_cell BK312.out 0).trans rfl, (blk_cell BK312.out 1).trans rfl, (blk_cell BK312.out 2).trans rfl, (blk_cell BK312.out 3).trans rfl⟩ (fun hHeld => ?_); refine with_tabW cambistlaw12_JournalLegs.tab10 cambistlaw12_JournalLegs.bits10 (fun HT_ HW_ => ?_)
                    generalize w137.drew = w138 at HO381 BK312 BK364 BK382 HB HR389 HR396 hHeld ⊢
                    refine pure_ (i := 1) (N := some 46) (v := ?_) (a' := ?_) (fl_ 14 2) rfl rfl (any_of HT_.out (by kernel_rfl)) (fun _ _ _ h => h) (Or.inl ⟨by rfl, ?_⟩) ?_ ?_
                    rotate_left
                    ·intro w'
                     go_simp
                     with_reducible rfl
                    rotate_left
                    ·simp only [Act.put, sT_, s0_, sS_, i64_w, i32_w]
                     rfl
                    refine pure_ (i := 3) (N := some 48) (v := ?_) (a' := ?_) (fl_ 14 10) rfl rfl (any_of HT_.out (by kernel_rfl)) (fun _ _ _ h => h) (Or.inl ⟨by rfl, ?_⟩) ?_ ?_
                    rotate_left
                    ·intro w'
                     go_simp
                     with_reducible rfl
                    rotate_left
                    ·simp only [Act.put, sT_, s0_, sS_, i64_w, i32_w]
                     rfl
                    refine pure_ (i := 6) (N := some 51) (v := ?_) (a' := ?_) (fl_ 14 74) rfl rfl (any_of HT_.out (by kernel_rfl)) (fun _ _ _ h => h) (Or.inl ⟨by rfl, ?_⟩) ?_ ?_
                    rotate_left
                    ·intro w'
                     go_simp
                     with_reducible rfl
                    rotate_left
                    ·simp only [Act.put, sT_, s0_, sS_, i64_w, i32_w]
                     rfl
                    refine pure_ (i := 8) (N := some 53) (v := ?_) (a' := ?_) (fl_ 14 330) rfl rfl (any_of HT_.out (by kernel_rfl)) (fun _ _ _ h => h) (Or.inl ⟨by rfl, ?_⟩) ?_ ?_
                    rotate_left
                    ·intro w'
                     go_simp
                     with_reducible rfl
                    rotate_left
                    ·simp only [Act.put, sT_, s0_, sS_, i64_w, i32_w]
                     rfl
                    refine pure_ (i := 9) (N := some 54) (v := ?_) (a' := ?_) (fl_ 14 842) rfl rfl (any_of HT_.out (by kernel_rfl)) (fun _ _ _ h => h) (Or.inl ⟨by rfl, ?_⟩) ?_ ?_
                    rotate_left
                    ·intro w'
                     go_simp
                     with_reducible rfl
                    rotate_left
                    ·simp only [Act.put, sT_, s0_, sS_, i64_w, i32_w]
                     rfl
                    refine take_ (i := 2) (N := some 47) (v := ?_) (a' := ?_) (fl_ 14 846) rfl rfl (take_ofW HT_.out HW_.out (by kernel_rfl)) (fun _ _ _ h => h) (Or.inl ⟨by rfl, ?_⟩) hHeld ?_ ?_
                    rotate_left
                    ·rintro w' ⟨s0, s1, s2, s3⟩
                     go_simp
                     with_reducible rfl
                    rotate_left
                    ·simp only [Act.put, sT_, s0_, sS_, i64_w, i32_w]
                     rfl
                    refine pure_ (i := 4) (N := some 49) (v := ?_) (a' := ?_) (fl_ 14 862) rfl rfl (any_of HT_.out (by kernel_rfl)) (fun _ _ _ h => h) (Or.inl ⟨by rfl, ?_⟩) ?_ ?_
                    rotate_left
                    ·intro w'
                     go_simp
                     with_reducible rfl
                    rotate_left
                    ·simp only [Act.put, sT_, s0_, sS_, i64_w, i32_w]
                     rfl
                    refine take_ (i := 7) (N := some 52) (v := ?_) (a' := ?_) (fl_ 14 990) rfl rfl (take_ofW HT_.out HW_.out (by kernel_rfl)) (fun _ _ _ h => h) (Or.inl ⟨by rfl, ?_⟩) hHeld ?_ ?_
                    rotate_left
                    ·rintro w' ⟨s0, s1, s2, s3⟩
                     go_simp
                     with_reducible rfl
                    rotate_left
                    ·simp only [Act.put, sT_, s0_, sS_, i64_w, i32_w]
                     rfl
                    refine pure_ (i := 10) (N := some 55) (v := ?_) (a' := ?_) (fl_ 14 2014) rfl rfl (any_of HT_.out (by kernel_rfl)) (fun _ _ _ h => h) (Or.inl ⟨by rfl, ?_⟩) ?_ ?_
                    rotate_left
                    ·intro w'
                     go_simp
                     with_reducible rfl
                    rotate_left
                    ·simp only [Act.put, sT_, s0_, sS_, i64_w, i32_w]
                     rfl
                    refine one_ (i := 0) (N := some 45) (fl_ 14 2015) rfl rfl (one_of HT_.out (by kernel_rfl)) (by decide) (fun K hK => ?_)
                    refine Kd.R_lit_step k42 _ 42 ?hg (N := 45) ?hd (xs := ([] : List (S42))) (inner := []) (ok := fun _ => True) (okp := fun _ => True) ?hr ?hp (fun _ hk => hk) trivial (Below.refl _ _) (Nat.le_refl _) (by simp) ?_; (case hd => rfl); (case hg => rfl); (case hr => first | (go_simp; done) | (go_simp; rfl)); (case hp => exact (Reps.none _ _))
                    intro v384 w141 ho142 hb hg_ hnew_
                    clear hg_ hnew_
                    (first | rw [← Ny383.out] at ho142 | (simp only [Int.reduceToNat] at ho142; rw [← Ny383.out] at ho142))
                    have n0_ := a_ (Kd.R_elder' (by (with_reducible repeat (first | apply Kd.R_alloc | apply Kd.R_drewN | apply Kd.R_drew)); exact HO381.out) (Kd.R_base ho142) hb)
                    have n1_ := a_ (Kd.R_lower (Kd.R_new' ho142 (Kd.R_lt (by (with_reducible repeat (first | apply Kd.R_alloc | apply Kd.R_drewN | apply Kd.R_drew)); exact HO381.out))) (below_size (by repeat (first | (with_reducible first | exact HB.out | apply bA_ | apply bN_ | apply b1_ | refine bS_ ?_ GE312.out | refine bS_ ?_ GE364.out | refine bS_ ?_ GE382.out) | exact HB.out))))
                    have n2_ := a_ (blk_below (g := gb312) (o := .cells #[.int .u64 a0_0, .int .u64 a0_1, .string a0_2, .slice A0_3 l0_3.length c0_3] 26 (0, 0)) (by (with_reducible repeat (first | refine kN_ ?_ _ | refine kD_ ?_ | refine kA_ ?_ _)); exact BK312.out) hb)
                    have n3_ := a_ (blk_below (g := gb364) (o := .cells #[.int .u64 a0_0, .int .u64 a0_1, .string a0_2, .slice Ao130 y379.length co130] 26 (0, 0)) (by (with_reducible repeat (first | refine kN_ ?_ _ | refine kD_ ?_ | refine kA_ ?_ _)); exact BK364.out) hb)
                    have n4_ := a_ (blk_below (g := gb382) (o := .cells #[.int .u64 a0_0, .int .u64 a0_1, .string a0_2, .slice A0_3 l0_3.length c0_3] 26 (0, 0)) (by (with_reducible repeat (first | refine kN_ ?_ _ | refine kD_ ?_ | refine kA_ ?_ _)); exact BK382.out) hb)
                    have n5_ := a_ (below_step (by repeat (first | (with_reducible first | exact HB.out | apply bA_ | apply bN_ | apply b1_ | refine bS_ ?_ GE312.out | refine bS_ ?_ GE364.out | refine bS_ ?_ GE382.out) | exact HB.out)) hb)
                    clear HO381
                    clear BK312
                    clear BK364
                    clear BK382
                    clear HB
                    have HO381 := n0_
                    have HO385 := n1_
                    have BK312 := n2_
                    have BK364 := n3_
                    have BK382 := n4_
                    have HB := n5_
                    clear n0_ n1_ n2_ n3_ n4_ n5_
                    clear hb ho142
                    refine hK.out _ _ ⟨(blk_cell BK312.out 0).trans rfl, (blk_cell BK312.out 1).trans rfl, (blk_cell BK312.out 2).trans rfl, (blk_cell BK312.out 3).trans rfl⟩ (fun hHeld => ?_)
                    clear hK K
                    refine norm_ (a' := ?_) ?_ ?_
                    rotate_left
                    ·show Act.put _ (some 45) _ = _
                     simp only [Act.put, sT_, s0_, sS_, i64_w, i32_w]
                     rfl
                    refine one_ (i := 5) (N := some 50) (fl_ 14 2047) rfl rfl (one_of HT_.out (by kernel_rfl)) (by decide) (fun K hK => ?_)
                    refine Kd.R_append_rows_step k42 (w0 := w) w.heap.size (by rfl) (.tmp 45) (.tmp 49) 24 42 (.agg #[(.string ⟨#[]⟩), (.string ⟨#[]⟩), (.int .i64 0)]) 40 rfl Tryd.underlying24 info42 rfl (by decide) (by omega) v384 y383 y386 _ _ _ (fun k_ => some k_ ≠ (.slice Ao130 y379.length co130 : Value).ownBlock) (fun _ => False) rfl rfl ?aO ?aR (fun _ _ h => h) (fun _ h => h.elim) ?aF ?aB ?aS ?aL ?_
                    (case aR => rw [Ey386_.out]; repeat (first | exact (Kd.C_below HR389.out HB.out) | (with_reducible refine Kd.C_alloc ?_ _) | (with_reducible refine Kd.C_drewN ?_ _) | (with_reducible refine Kd.C_drew ?_)))
                    (case aB => exact (by repeat (first | (with_reducible first | exact HB.out | apply bA_ | apply bN_ | apply b1_ | refine bS_ ?_ GE312.out | refine bS_ ?_ GE364.out | refine bS_ ?_ GE382.out) | exact HB.out)))
                    (case aF => exact (fun k_ hk => Kd.fresh' (Kd.R_lt (by (with_reducible repeat (first | apply Kd.R_alloc | apply Kd.R_drewN | apply Kd.R_drew)); exact HO381.out)) k_ hk))
                    (case aO => exact (by (with_reducible repeat (first | apply Kd.R_alloc | apply Kd.R_drewN | apply Kd.R_drew)); exact Kd.R_mono HO385.out (fun _ hk => hk.2)))
                    (case aS => exact (below_size (by repeat (first | (with_reducible first | exact HB.out | apply bA_ | apply bN_ | apply b1_ | refine bS_ ?_ GE312.out | refine bS_ ?_ GE364.out | refine bS_ ?_ GE382.out) | exact HB.out))))
                    (case aL => have := LMc103.out; have := Ey386_.out; omega)
                    intro v391 w143 ho hb hg hat
                    rw [← Ny390.out] at ho
                    have n0_ := a_ (blk_grown (g := gb312) (o := .cells #[.int .u64 a0_0, .int .u64 a0_1, .string a0_2, .slice A0_3 l0_3.length c0_3] 26 (0, 0)) (by (with_reducible repeat (first | refine kN_ ?_ _ | refine kD_ ?_ | refine kA_ ?_ _)); exact BK312.out) hg (Kd.R_ne HO385.out BK312.out (by decide)))
                    have n1_ := a_ (blk_grown (g := gb364) (o := .cells #[.int .u64 a0_0, .int .u64 a0_1, .string a0_2, .slice Ao130 y379.length co130] 26 (0, 0)) (by (with_reducible repeat (first | refine kN_ ?_ _ | refine kD_ ?_ | refine kA_ ?_ _)); exact BK364.out) hg (Kd.R_ne HO385.out BK364.out (by decide)))
                    have n2_ := a_ (Kd.R_after (ok := (fun _ => True)) (by (with_reducible repeat (first | apply Kd.R_alloc | apply Kd.R_drewN | apply Kd.R_drew)); exact HO381.out) hg hat)
                    have n3_ := a_ (blk_grown (g := gb382) (o := .cells #[.int .u64 a0_0, .int .u64 a0_1, .string a0_2, .slice A0_3 l0_3.length c0_3] 26 (0, 0)) (by (with_reducible repeat (first | refine kN_ ?_ _ | refine kD_ ?_ | refine kA_ ?_ _)); exact BK382.out) hg (Kd.R_ne HO385.out BK382.out (by decide)))
                    have n4_ := a_ (hb)
                    have n5_ := a_ (ho)
                    clear BK312
                    clear BK364
                    clear HO381
                    clear BK382
                    clear HB
                    clear HO385
                    have BK312 := n0_
                    have BK364 := n1_
                    have HO381 := n2_
                    have BK382 := n3_
                    have HB := n4_
                    have HO392 := n5_
                    clear n0_ n1_ n2_ n3_ n4_ n5_
                    clear ho hb hg hat
                    refine hK.out _ _ ⟨(blk_cell BK312.out 0).trans rfl, (blk_cell BK312.out 1).trans rfl, (blk_cell BK312.out 2).trans rfl, (blk_cell BK312.out 3).trans rfl⟩ (fun hHeld => ?_)
                    clear hK K
                    refine norm_ (a' := ?_) ?_ ?_
                    rotate_left
                    ·show Act.put _ (some 50) _ = _
                     simp only [Act.put, sT_, s0_, sS_, i64_w, i32_w]
                     rfl
                    refine one_ (i := 11) (N := some 56) (fl_ 14 4095) rfl rfl (one_of HT_.out (by kernel_rfl)) (by decide) (fun K hK => ?_)
                    refine Kd.R_append_rows_step k42 (w0 := w) w.heap.size (by rfl) (.tmp 50) (.tmp 55) 24 42 (.agg #[(.string ⟨#[]⟩), (.string ⟨#[]⟩), (.int .i64 0)]) 40 rfl Tryd.underlying24 info42 rfl (by decide) (by omega) v391 y390 y393 _ _ _ (fun k_ => some k_ ≠ (.slice Ao130 y379.length co130 : Value).ownBlock) (fun _ => False) rfl rfl ?aO ?aR (fun _ _ h => h) (fun _ h => h.elim) ?aF ?aB ?aS ?aL ?_
                    (case aR => repeat (first | exact (Kd.C_below HR396.out HB.out) | (with_reducible refine Kd.C_alloc ?_ _) | (with_reducible refine Kd.C_drewN ?_ _) | (with_reducible refine Kd.C_drew ?_)))
                    (case aB => exact (by repeat (first | (with_reducible first | exact HB.out | apply bA_ | apply bN_ | apply b1_ | refine bS_ ?_ GE312.out | refine bS_ ?_ GE364.out | refine bS_ ?_ GE382.out) | exact HB.out)))
                    (case aF => exact (fun k_ hk => Kd.fresh' (Kd.R_lt (by (with_reducible repeat (first | apply Kd.R_alloc | apply Kd.R_drewN | apply Kd.R_drew)); exact HO381.out)) k_ hk))
                    (case aO => exact (by (with_reducible repeat (first | apply Kd.R_alloc | apply Kd.R_drewN | apply Kd.R_drew)); exact HO392.out))
                    (case aS => exact (below_size (by repeat (first | (with_reducible first | exact HB.out | apply bA_ | apply bN_ | apply b1_ | refine bS_ ?_ GE312.out | refine bS_ ?_ GE364.out | refine bS_ ?_ GE382.out) | exact HB.out))))
                    (case aL => have := LMc107.out; omega)
                    intro v398 w144 ho hb hg hat
                    rw [← Ny397.out] at ho
                    have n0_ := a_ (blk_grown (g := gb312) (o := .cells #[.int .u64 a0_0, .int .u64 a0_1, .string a0_2, .slice A0_3 l0_3.length c0_3] 26 (0, 0)) (by (with_reducible repeat (first | refine kN_ ?_ _ | refine kD_ ?_ | refine kA_ ?_ _)); exact BK312.out) hg (Kd.R_ne HO392.out BK312.out (by decide)))
                    have n1_ := a_ (blk_grown (g := gb364) (o := .cells #[.int .u64 a0_0, .int .u64 a0_1, .string a0_2, .slice Ao130 y379.length co130] 26 (0, 0)) (by (with_reducible repeat (first | refine kN_ ?_ _ | refine kD_ ?_ | refine kA_ ?_ _)); exact BK364.out) hg (Kd.R_ne HO392.out BK364.out (by decide)))
                    have n2_ := a_ (Kd.R_after (ok := (fun _ => True)) (by (with_reducible repeat (first | apply Kd.R_alloc | apply Kd.R_drewN | apply Kd.R_drew)); exact HO381.out) hg hat)
                    have n3_ := a_ (blk_grown (g := gb382) (o := .cells #[.int .u64 a0_0, .int .u64 a0_1, .string a0_2, .slice A0_3 l0_3.length c0_3] 26 (0, 0)) (by (with_reducible repeat (first | refine kN_ ?_ _ | refine kD_ ?_ | refine kA_ ?_ _)); exact BK382.out) hg (Kd.R_ne HO392.out BK382.out (by decide)))
                    have n4_ := a_ (hb)
                    have n5_ := a_ (ho)
                    clear BK312
                    clear BK364
                    clear HO381
                    clear BK382
                    clear HB
                    clear HO392
                    have BK312 := n0_
                    have BK364 := n1_
                    have HO381 := n2_
                    have BK382 := n3_
                    have HB := n4_
                    have HO399 := n5_
                    clear n0_ n1_ n2_ n3_ n4_ n5_
                    clear ho hb hg hat
                    obtain ⟨Ao145, co145, eo145⟩ := Kd.R_slice HO399.out
                    (first | subst eo145 | (injection eo145 with f1_ f2_ f3_; have f4_ := f1_.symm; have f5_ := f3_.symm; clear f1_ f2_ f3_; subst f4_; subst f5_))
                    refine hK.out _ _ ⟨(blk_cell BK312.out 0).trans rfl, (blk_cell BK312.out 1).trans rfl, (blk_cell BK312.out 2).trans rfl, (blk_cell BK312.out 3).trans rfl⟩ (fun hHeld => ?_)
                    clear hK K
                    refine norm_ (a' := ?_) ?_ ?_
                    rotate_left
                    ·show Act.put _ (some 56) _ = _
                     simp only [Act.put, sT_, s0_, sS_, i64_w, i32_w]
                     rfl
                    refine pure_ (i := 12) (N := some 57) (v := ?_) (a' := ?_) (fl_ 14 8191) rfl rfl (any_of HT_.out (by kernel_rfl)) (fun _ _ _ h => h) (Or.inl ⟨by rfl, ?_⟩) ?_ ?_
                    rotate_left
                    ·intro w'
                     go_simp
                     with_reducible rfl
                    rotate_left
                    ·simp only [Act.put, sT_, s0_, sS_, i64_w, i32_w]
                     rfl
                    refine one_ (i := 13) (N := none) (fl_ 14 16383) rfl rfl (one_of HT_.out (by kernel_rfl)) (by decide) (fun K hK => ?_)
                    have hs146 : w144.cell? ⟨gb382, 3, none⟩ = some (.slice A0_3 l0_3.length c0_3) := (blk_cell BK382.out 3).trans rfl
                    have hfs146 := blk_frozen BK382.out 3
                    have hns146_0 := NB312_382.out
                    have hns146_1 := NB364_382.out
                    have hms146_0 := NB382_312.out
                    have hms146_1 := NB382_364.out
                    refine skip_ (w1 := ?_) (by rfl) rfl ?_ ?_
                    rotate_left
                    ·go_simp
                     rfl
                    refine hK.out _ _ ⟨((cell_far (p := ⟨gb382, _, none⟩) NB312_382.out _).trans (hHeld.1)), ((cell_far (p := ⟨gb382, _, none⟩) NB312_382.out _).trans (hHeld.2.1)), ((cell_far (p := ⟨gb382, _, none⟩) NB312_382.out _).trans (hHeld.2.2.1)), ((cell_far (p := ⟨gb382, _, none⟩) NB312_382.out _).trans (hHeld.2.2.2))⟩ (fun hHeld => ?_)
                    clear hK K
                    refine done_ (done_of HT_.out (by kernel_rfl)) ?_
                    have hcz147_0 : w144.cell? ⟨gb312, 0, none⟩ = some (.int .u64 a0_0) := (blk_cell BK312.out 0).trans rfl
                    have hcz147_1 : w144.cell? ⟨gb312, 1, none⟩ = some (.int .u64 a0_1) := (blk_cell BK312.out 1).trans rfl
                    have hcz147_2 : w144.cell? ⟨gb312, 2, none⟩ = some (.string a0_2) := (blk_cell BK312.out 2).trans rfl
                    have hcz147_3 : w144.cell? ⟨gb312, 3, none⟩ = some (.slice A0_3 l0_3.length c0_3) := (blk_cell BK312.out 3).trans rfl
                    have hfz147_0 := blk_frozen BK312.out 0
                    have hfz147_1 := blk_frozen BK312.out 1
                    have hfz147_2 := blk_frozen BK312.out 2
                    have hfz147_3 := blk_frozen BK312.out 3
                    try go_wp2_with (first | ((with_reducible refine gate_dst (N := 10) rfl ?_); refine box_event ?hg (N := 10) ?hd (cs := #[.int .u64 0, .int .u64 0, .string (⟨#[]⟩ : ByteArray), .slice none 0 0]) (t := 26) ?hr ?_; (case hd => rfl); (case hg => rfl); (case hr => first | (go_simp; done) | (go_simp; rfl)); intro gb400 hg w148 hbox hb; have n0_ := a_ (Kd.R_below (by (with_reducible repeat (first | apply Kd.R_alloc | apply Kd.R_drewN | apply Kd.R_drew)); exact (Kd.R_mono (Kd.R_far (p := ⟨gb382, 3, none⟩) (Kd.R_types HO381.out BK382.out (by decide)) (fun _ hk => hk.2) (.slice Ao145 y397.length co145)) (fun _ h_ => h_.1))) hb); have n1_ := a_ (Kd.R_below (by (with_reducible repeat (first | apply Kd.R_alloc | apply Kd.R_drewN | apply Kd.R_drew)); exact (Kd.R_mono (Kd.R_far (p := ⟨gb382, 3, none⟩) (Kd.R_types HO399.out BK382.out (by decide)) (fun _ hk => hk.2) (.slice Ao145 y397.length co145)) (fun _ h_ => h_.1))) hb); have n2_ := a_ (blk_below (g := gb312) (o := .cells #[.int .u64 a0_0, .int .u64 a0_1, .string a0_2, .slice A0_3 l0_3.length c0_3] 26 (0, 0)) (by (with_reducible repeat (first | refine kN_ ?_ _ | refine kD_ ?_ | refine kA_ ?_ _)); refine blk_far ?_ NB312_382.out _; (with_reducible repeat (first | refine kN_ ?_ _ | refine kD_ ?_ | refine kA_ ?_ _)); exact BK312.out) hb); have n3_ := a_ (blk_below (g := gb364) (o := .cells #[.int .u64 a0_0, .int .u64 a0_1, .string a0_2, .slice Ao130 y379.length co130] 26 (0, 0)) (by (with_reducible repeat (first | refine kN_ ?_ _ | refine kD_ ?_ | refine kA_ ?_ _)); refine blk_far ?_ NB364_382.out _; (with_reducible repeat (first | refine kN_ ?_ _ | refine kD_ ?_ | refine kA_ ?_ _)); exact BK364.out) hb); have n4_ := a_ (blk_below (g := gb382) (o := .cells #[.int .u64 a0_0, .int .u64 a0_1, .string a0_2, .slice Ao145 y397.length co145] 26 (0, 0)) (by (with_reducible repeat (first | refine kN_ ?_ _ | refine kD_ ?_ | refine kA_ ?_ _)); refine blk_put (cs := #[.int .u64 a0_0, .int .u64 a0_1, .string a0_2, .slice A0_3 l0_3.length c0_3]) ?_ 3 _ rfl; (with_reducible repeat (first | refine kN_ ?_ _ | refine kD_ ?_ | refine kA_ ?_ _)); exact BK382.out) hb); have n5_ := a_ (below_step (by repeat (first | (with_reducible first | exact HB.out | apply bA_ | apply bN_ | apply b1_ | refine bS_ ?_ GE312.out | refine bS_ ?_ GE364.out | refine bS_ ?_ GE382.out) | exact HB.out)) hb); have n6_ := a_ (hbox); have n7_ := a_ ((by rw [hg]; exact (below_size (by repeat (first | (with_reducible first | exact HB.out | apply bA_ | apply bN_ | apply b1_ | refine bS_ ?_ GE312.out | refine bS_ ?_ GE364.out | refine bS_ ?_ GE382.out) | exact HB.out))) : w.heap.size ≤ gb400)); have n8_ := a_ ((by rw [hg]; exact (below_size (by repeat (first | (with_reducible first | exact HB.out | apply bA_ | apply bN_ | apply b1_ | refine bS_ ?_ GE312.out | refine bS_ ?_ GE364.out | refine bS_ ?_ GE382.out) | exact HB.out))) : w.heap.size ≤ gb400)); have n9_ := a_ ((by rw [hg]; exact Nat.ne_of_lt (blk_lt (g := gb312) (o := .cells #[.int .u64 a0_0, .int .u64 a0_1, .string a0_2, .slice A0_3 l0_3.length c0_3] 26 (0, 0)) (by (with_reducible repeat (first | refine kN_ ?_ _ | refine kD_ ?_ | refine kA_ ?_ _)); refine blk_far ?_ NB312_382.out _; (with_reducible repeat (first | refine kN_ ?_ _ | refine kD_ ?_ | refine kA_ ?_ _)); exact BK312.out)) : gb312 ≠ gb400)); have n10_ := a_ ((by rw [hg]; exact Nat.ne_of_gt (blk_lt (g := gb312) (o := .cells #[.int .u64 a0_0, .int .u64 a0_1, .string a0_2, .slice A0_3 l0_3.length c0_3] 26 (0, 0)) (by (with_reducible repeat (first | refine kN_ ?_ _ | refine kD_ ?_ | refine kA_ ?_ _)); refine blk_far ?_ NB312_382.out _; (with_reducible repeat (first | refine kN_ ?_ _ | refine kD_ ?_ | refine kA_ ?_ _)); exact BK312.out)) : gb400 ≠ gb312)); have n11_ := a_ ((by rw [hg]; exact Nat.ne_of_lt (blk_lt (g := gb364) (o := .cells #[.int .u64 a0_0, .int .u64 a0_1, .string a0_2, .slice Ao130 y379.length co130] 26 (0, 0)) (by (with_reducible repeat (first | refine kN_ ?_ _ | refine kD_ ?_ | refine kA_ ?_ _)); refine blk_far ?_ NB364_382.out _; (with_reducible repeat (first | refine kN_ ?_ _ | refine kD_ ?_ | refine kA_ ?_ _)); exact BK364.out)) : gb364 ≠ gb400)); have n12_ := a_ ((by rw [hg]; exact Nat.ne_of_gt (blk_lt (g := gb364) (o := .cells #[.int .u64 a0_0, .int .u64 a0_1, .string a0_2, .slice Ao130 y379.length co130] 26 (0, 0)) (by (with_reducible repeat (first | refine kN_ ?_ _ | refine kD_ ?_ | refine kA_ ?_ _)); refine blk_far ?_ NB364_382.out _; (with_reducible repeat (first | refine kN_ ?_ _ | refine kD_ ?_ | refine kA_ ?_ _)); exact BK364.out)) : gb400 ≠ gb364)); have n13_ := a_ ((by rw [hg]; exact Nat.ne_of_lt (blk_lt (g := gb382) (o := .cells #[.int .u64 a0_0, .int .u64 a0_1, .string a0_2, .slice Ao145 y397.length co145] 26 (0, 0)) (by (with_reducible repeat (first | refine kN_ ?_ _ | refine kD_ ?_ | refine kA_ ?_ _)); refine blk_put (cs := #[.int .u64 a0_0, .int .u64 a0_1, .string a0_2, .slice A0_3 l0_3.length c0_3]) ?_ 3 _ rfl; (with_reducible repeat (first | refine kN_ ?_ _ | refine kD_ ?_ | refine kA_ ?_ _)); exact BK382.out)) : gb382 ≠ gb400)); have n14_ := a_ ((by rw [hg]; exact Nat.ne_of_gt (blk_lt (g := gb382) (o := .cells #[.int .u64 a0_0, .int .u64 a0_1, .string a0_2, .slice Ao145 y397.length co145] 26 (0, 0)) (by (with_reducible repeat (first | refine kN_ ?_ _ | refine kD_ ?_ | refine kA_ ?_ _)); refine blk_put (cs := #[.int .u64 a0_0, .int .u64 a0_1, .string a0_2, .slice A0_3 l0_3.length c0_3]) ?_ 3 _ rfl; (with_reducible repeat (first | refine kN_ ?_ _ | refine kD_ ?_ | refine kA_ ?_ _)); exact BK382.out)) : gb400 ≠ gb382)); clear HO381; clear HO399; clear BK312; clear BK364; clear BK382; clear HB; have HO381 := n0_; have HO399 := n1_; have BK312 := n2_; have BK364 := n3_; have BK382 := n4_; have HB := n5_; have BK400 := n6_; have GW400 := n7_; have GE400 := n8_; have NB312_400 := n9_; have NB400_312 := n10_; have NB364_400 := n11_; have NB400_364 := n12_; have NB382_400 := n13_; have NB400_382 := n14_; clear n0_ n1_ n2_ n3_ n4_ n5_ n6_ n7_ n8_ n9_ n10_ n11_ n12_ n13_ n14_; clear hb hbox hg; have hnb149 := NB400_312.out; have hnc149 := NB312_400.out; have hnb150 := NB400_364.out; have hnc150 := NB364_400.out; have hnb151 := NB400_382.out; have hnc151 := NB382_400.out; have hcz152_0 : w148.cell? ⟨gb400, 0, none⟩ = some (.int .u64 0) := (blk_cell BK400.out 0).trans rfl; have hcz152_1 : w148.cell? ⟨gb400, 1, none⟩ = some (.int .u64 0) := (blk_cell BK400.out 1).trans rfl; have hcz152_2 : w148.cell? ⟨gb400, 2, none⟩ = some (.string (⟨#[]⟩ : ByteArray)) := (blk_cell BK400.out 2).trans rfl; have hcz152_3 : w148.cell? ⟨gb400, 3, none⟩ = some (.slice none 0 0) := (blk_cell BK400.out 3).trans rfl; have hfz152_0 := blk_frozen BK400.out 0; have hfz152_1 := blk_frozen BK400.out 1; have hfz152_2 := blk_frozen BK400.out 2; have hfz152_3 := blk_frozen BK400.out 3) | ((with_reducible refine gate_dst (N := 59) rfl ?_); refine Kd.R_lit k42 _ 42 ?hg (N := 59) ?hd (xs := ([] : List (S42))) (inner := []) (ok := fun _ => True) (okp := fun _ => True) ?hr ?hp (fun _ hk => hk) trivial (Below.refl _ _) (Nat.le_refl _) (by simp) ?_; (case hd => rfl); (case hg => rfl); (case hr => first | (go_simp; done) | (go_simp; rfl)); (case hp => exact (Reps.none _ _)); intro v402 w153 ho154 hb hg_ hnew_; clear hg_ hnew_; (first | rw [← Ny401.out] at ho154 | (simp only [Int.reduceToNat] at ho154; rw [← Ny401.out] at ho154)); have n0_ := a_ (Kd.R_elder' (by (with_reducible repeat (first | apply Kd.R_alloc | apply Kd.R_drewN | apply Kd.R_drew)); exact (Kd.R_mono (Kd.R_far (p := ⟨gb400, 3, none⟩) (Kd.R_far (p := ⟨gb400, 2, none⟩) (Kd.R_far (p := ⟨gb400, 1, none⟩) (Kd.R_far (p := ⟨gb400, 0, none⟩) (Kd.R_types HO381.out BK400.out (by decide)) (fun _ hk => hk.2) (.int .u64 a0_0)) (fun _ hk => hk.2) (.int .u64 a0_1)) (fun _ hk => hk.2) (.string a0_2)) (fun _ hk => hk.2) (.slice A0_3 l0_3.length c0_3)) (fun _ h_ => h_.1))) (Kd.R_base ho154) hb); have n1_ := a_ (Kd.R_elder' (by (with_reducible repeat (first | apply Kd.R_alloc | apply Kd.R_drewN | apply Kd.R_drew)); exact (Kd.R_mono (Kd.R_far (p := ⟨gb400, 3, none⟩) (Kd.R_far (p := ⟨gb400, 2, none⟩) (Kd.R_far (p := ⟨gb400, 1, none⟩) (Kd.R_far (p := ⟨gb400, 0, none⟩) (Kd.R_types HO399.out BK400.out (by decide)) (fun _ hk => hk.2) (.int .u64 a0_0)) (fun _ hk => hk.2) (.int .u64 a0_1)) (fun _ hk => hk.2) (.string a0_2)) (fun _ hk => hk.2) (.slice A0_3 l0_3.length c0_3)) (fun _ h_ => h_.1))) (Kd.R_base ho154) hb); have n2_ := a_ (Kd.R_lower (Kd.R_new' (Kd.R_new' ho154 (Kd.R_lt (by (with_reducible repeat (first | apply Kd.R_alloc | apply Kd.R_drewN | apply Kd.R_drew)); exact (Kd.R_mono (Kd.R_far (p := ⟨gb400, 3, none⟩) (Kd.R_far (p := ⟨gb400, 2, none⟩) (Kd.R_far (p := ⟨gb400, 1, none⟩) (Kd.R_far (p := ⟨gb400, 0, none⟩) (Kd.R_types HO381.out BK400.out (by decide)) (fun _ hk => hk.2) (.int .u64 a0_0)) (fun _ hk => hk.2) (.int .u64 a0_1)) (fun _ hk => hk.2) (.string a0_2)) (fun _ hk => hk.2) (.slice A0_3 l0_3.length c0_3)) (fun _ h_ => h_.1))))) (Kd.R_lt (by (with_reducible repeat (first | apply Kd.R_alloc | apply Kd.R_drewN | apply Kd.R_drew)); exact (Kd.R_mono (Kd.R_far (p := ⟨gb400, 3, none⟩) (Kd.R_far (p := ⟨gb400, 2, none⟩) (Kd.R_far (p := ⟨gb400, 1, none⟩) (Kd.R_far (p := ⟨gb400, 0, none⟩) (Kd.R_types HO399.out BK400.out (by decide)) (fun _ hk => hk.2) (.int .u64 a0_0)) (fun _ hk => hk.2) (.int .u64 a0_1)) (fun _ hk => hk.2) (.string a0_2)) (fun _ hk => hk.2) (.slice A0_3 l0_3.length c0_3)) (fun _ h_ => h_.1))))) (below_size (by repeat (first | (with_reducible first | exact HB.out | apply bA_ | apply bN_ | apply b1_ | refine bS_ ?_ GE312.out | refine bS_ ?_ GE364.out | refine bS_ ?_ GE382.out | refine bS_ ?_ GE400.out) | exact HB.out)))); have n3_ := a_ (blk_below (g := gb312) (o := .cells #[.int .u64 a0_0, .int .u64 a0_1, .string a0_2, .slice A0_3 l0_3.length c0_3] 26 (0, 0)) (by (with_reducible repeat (first | refine kN_ ?_ _ | refine kD_ ?_ | refine kA_ ?_ _)); refine blk_far ?_ NB312_400.out _; (with_reducible repeat (first | refine kN_ ?_ _ | refine kD_ ?_ | refine kA_ ?_ _)); refine blk_far ?_ NB312_400.out _; (with_reducible repeat (first | refine kN_ ?_ _ | refine kD_ ?_ | refine kA_ ?_ _)); refine blk_far ?_ NB312_400.out _; (with_reducible repeat (first | refine kN_ ?_ _ | refine kD_ ?_ | refine kA_ ?_ _)); refine blk_far ?_ NB312_400.out _; (with_reducible repeat (first | refine kN_ ?_ _ | refine kD_ ?_ | refine kA_ ?_ _)); exact BK312.out) hb); have n4_ := a_ (blk_below (g := gb364) (o := .cells #[.int .u64 a0_0, .int .u64 a0_1, .string a0_2, .slice Ao130 y379.length co130] 26 (0, 0)) (by (with_reducible repeat (first | refine kN_ ?_ _ | refine kD_ ?_ | refine kA_ ?_ _)); refine blk_far ?_ NB364_400.out _; (with_reducible repeat (first | refine kN_ ?_ _ | refine kD_ ?_ | refine kA_ ?_ _)); refine blk_far ?_ NB364_400.out _; (with_reducible repeat (first | refine kN_ ?_ _ | refine kD_ ?_ | refine kA_ ?_ _)); refine blk_far ?_ NB364_400.out _; (with_reducible repeat (first | refine kN_ ?_ _ | refine kD_ ?_ | refine kA_ ?_ _)); refine blk_far ?_ NB364_400.out _; (with_reducible repeat (first | refine kN_ ?_ _ | refine kD_ ?_ | refine kA_ ?_ _)); exact BK364.out) hb); have n5_ := a_ (blk_below (g := gb382) (o := .cells #[.int .u64 a0_0, .int .u64 a0_1, .string a0_2, .slice Ao145 y397.length co145] 26 (0, 0)) (by (with_reducible repeat (first | refine kN_ ?_ _ | refine kD_ ?_ | refine kA_ ?_ _)); refine blk_far ?_ NB382_400.out _; (with_reducible repeat (first | refine kN_ ?_ _ | refine kD_ ?_ | refine kA_ ?_ _)); refine blk_far ?_ NB382_400.out _; (with_reducible repeat (first | refine kN_ ?_ _ | refine kD_ ?_ | refine kA_ ?_ _)); refine blk_far ?_ NB382_400.out _; (with_reducible repeat (first | refine kN_ ?_ _ | refine kD_ ?_ | refine kA_ ?_ _)); refine blk_far ?_ NB382_400.out _; (with_reducible repeat (first | refine kN_ ?_ _ | refine kD_ ?_ | refine kA_ ?_ _)); exact BK382.out) hb); have n6_ := a_ (blk_below (g := gb400) (o := .cells #[.int .u64 a0_0, .int .u64 a0_1, .string a0_2, .slice A0_3 l0_3.length c0_3] 26 (0, 0)) (by (with_reducible repeat (first | refine kN_ ?_ _ | refine kD_ ?_ | refine kA_ ?_ _)); refine blk_put (cs := #[.int .u64 a0_0, .int .u64 a0_1, .string a0_2, .slice none 0 0]) ?_ 3 _ rfl; (with_reducible repeat (first | refine kN_ ?_ _ | refine kD_ ?_ | refine kA_ ?_ _)); refine blk_put (cs := #[.int .u64 a0_0, .int .u64 a0_1, .string (⟨#[]⟩ : ByteArray), .slice none 0 0]) ?_ 2 _ rfl; (with_reducible repeat (first | refine kN_ ?_ _ | refine kD_ ?_ | refine kA_ ?_ _)); refine blk_put (cs := #[.int .u64 a0_0, .int .u64 0, .string (⟨#[]⟩ : ByteArray), .slice none 0 0]) ?_ 1 _ rfl; (with_reducible repeat (first | refine kN_ ?_ _ | refine kD_ ?_ | refine kA_ ?_ _)); refine blk_put (cs := #[.int .u64 0, .int .u64 0, .string (⟨#[]⟩ : ByteArray), .slice none 0 0]) ?_ 0 _ rfl; (with_reducible repeat (first | refine kN_ ?_ _ | refine kD_ ?_ | refine kA_ ?_ _)); exact BK400.out) hb); have n7_ := a_ (below_step (by repeat (first | (with_reducible first | exact HB.out | apply bA_ | apply bN_ | apply b1_ | refine bS_ ?_ GE312.out | refine bS_ ?_ GE364.out | refine bS_ ?_ GE382.out | refine bS_ ?_ GE400.out) | exact HB.out)) hb); clear HO381; clear HO399; clear BK312; clear BK364; clear BK382; clear BK400; clear HB; have HO381 := n0_; have HO399 := n1_; have HO403 := n2_; have BK312 := n3_; have BK364 := n4_; have BK382 := n5_; have BK400 := n6_; have HB := n7_; clear n0_ n1_ n2_ n3_ n4_ n5_ n6_ n7_; clear hb ho154; have hcz155_0 : w153.cell? ⟨gb312, 0, none⟩ = some (.int .u64 a0_0) := (blk_cell BK312.out 0).trans rfl; have hcz155_1 : w153.cell? ⟨gb312, 1, none⟩ = some (.int .u64 a0_1) := (blk_cell BK312.out 1).trans rfl; have hcz155_2 : w153.cell? ⟨gb312, 2, none⟩ = some (.string a0_2) := (blk_cell BK312.out 2).trans rfl; have hcz155_3 : w153.cell? ⟨gb312, 3, none⟩ = some (.slice A0_3 l0_3.length c0_3) := (blk_cell BK312.out 3).trans rfl; have hfz155_0 := blk_frozen BK312.out 0; have hfz155_1 := blk_frozen BK312.out 1; have hfz155_2 := blk_frozen BK312.out 2; have hfz155_3 := blk_frozen BK312.out 3) | ((with_reducible refine gate_builtin (b := .append) (xs := #[.tmp 59, .tmp 61]) rfl ?_); at_builtin; refine Kd.R_append_rows k42 (w0 := w) w.heap.size rfl (.tmp 59) (.tmp 61) 24 42 (.agg #[(.string ⟨#[]⟩), (.string ⟨#[]⟩), (.int .i64 0)]) 40 rfl Tryd.underlying24 info42 rfl (by decide) (by omega) v402 y401 l0_3 _ _ _ (fun k_ => some k_ ≠ (.slice Ao130 y379.length co130 : Value).ownBlock ∧ some k_ ≠ (.slice Ao145 y397.length co145 : Value).ownBlock) (fun _ => False) rfl rfl ?aO ?aR (fun _ _ h => h) (fun _ h => h.elim) ?aF ?aB ?aS ?aL ?_; (case aR => repeat (first | exact (Kd.C_below HR0_3.out HB.out) | (with_reducible refine Kd.C_alloc ?_ _) | (with_reducible refine Kd.C_drewN ?_ _) | (with_reducible refine Kd.C_drew ?_))); (case aB => exact (by repeat (first | (with_reducible first | exact HB.out | apply bA_ | apply bN_ | apply b1_ | refine bS_ ?_ GE312.out | refine bS_ ?_ GE364.out | refine bS_ ?_ GE382.out | refine bS_ ?_ GE400.out) | exact HB.out))); (case aF => exact (fun k_ hk => ⟨Kd.fresh' (Kd.R_lt (by (with_reducible repeat (first | apply Kd.R_alloc | apply Kd.R_drewN | apply Kd.R_drew)); exact HO381.out)) k_ hk, Kd.fresh' (Kd.R_lt (by (with_reducible repeat (first | apply Kd.R_alloc | apply Kd.R_drewN | apply Kd.R_drew)); exact HO399.out)) k_ hk⟩)); (case aO => exact (by (with_reducible repeat (first | apply Kd.R_alloc | apply Kd.R_drewN | apply Kd.R_drew)); exact Kd.R_mono HO403.out (fun _ hk => ⟨hk.1.2, hk.2⟩))); (case aS => exact (below_size (by repeat (first | (with_reducible first | exact HB.out | apply bA_ | apply bN_ | apply b1_ | refine bS_ ?_ GE312.out | refine bS_ ?_ GE364.out | refine bS_ ?_ GE382.out | refine bS_ ?_ GE400.out) | exact HB.out)))); (case aL => have := LMc108.out; omega); intro v405 w156 ho hb hg hat; rw [← Ny404.out] at ho; have n0_ := a_ (blk_grown (g := gb312) (o := .cells #[.int .u64 a0_0, .int .u64 a0_1, .string a0_2, .slice A0_3 l0_3.length c0_3] 26 (0, 0)) (by (with_reducible repeat (first | refine kN_ ?_ _ | refine kD_ ?_ | refine kA_ ?_ _)); exact BK312.out) hg (Kd.R_ne HO403.out BK312.out (by decide))); have n1_ := a_ (blk_grown (g := gb364) (o := .cells #[.int .u64 a0_0, .int .u64 a0_1, .string a0_2, .slice Ao130 y379.length co130] 26 (0, 0)) (by (with_reducible repeat (first | refine kN_ ?_ _ | refine kD_ ?_ | refine kA_ ?_ _)); exact BK364.out) hg (Kd.R_ne HO403.out BK364.out (by decide))); have n2_ := a_ (Kd.R_after (ok := (fun k_ => some k_ ≠ (.slice Ao145 y397.length co145 : Value).ownBlock)) (by (with_reducible repeat (first | apply Kd.R_alloc | apply Kd.R_drewN | apply Kd.R_drew)); exact Kd.R_mono HO381.out (fun _ hk => ⟨hk.1.2, hk.2⟩)) hg hat); have n3_ := a_ (blk_grown (g := gb382) (o := .cells #[.int .u64 a0_0, .int .u64 a0_1, .string a0_2, .slice Ao145 y397.length co145] 26 (0, 0)) (by (with_reducible repeat (first | refine kN_ ?_ _ | refine kD_ ?_ | refine kA_ ?_ _)); exact BK382.out) hg (Kd.R_ne HO403.out BK382.out (by decide))); have n4_ := a_ (Kd.R_after (ok := (fun k_ => some k_ ≠ (.slice Ao130 y379.length co130 : Value).ownBlock)) (by (with_reducible repeat (first | apply Kd.R_alloc | apply Kd.R_drewN | apply Kd.R_drew)); exact HO399.out) hg hat); have n5_ := a_ (blk_grown (g := gb400) (o := .cells #[.int .u64 a0_0, .int .u64 a0_1, .string a0_2, .slice A0_3 l0_3.length c0_3] 26 (0, 0)) (by (with_reducible repeat (first | refine kN_ ?_ _ | refine kD_ ?_ | refine kA_ ?_ _)); exact BK400.out) hg (Kd.R_ne HO403.out BK400.out (by decide))); have n6_ := a_ (hb); have n7_ := a_ (ho); clear BK312; clear BK364; clear HO381; clear BK382; clear HO399; clear BK400; clear HB; clear HO403; have BK312 := n0_; have BK364 := n1_; have HO381 := n2_; have BK382 := n3_; have HO399 := n4_; have BK400 := n5_; have HB := n6_; have HO406 := n7_; clear n0_ n1_ n2_ n3_ n4_ n5_ n6_ n7_; clear ho hb hg hat; obtain ⟨Ao157, co157, eo157⟩ := Kd.R_slice HO406.out; subst eo157; have hcz158_0 : w156.cell? ⟨gb400, 0, none⟩ = some (.int .u64 a0_0) := (blk_cell BK400.out 0).trans rfl; have hcz158_1 : w156.cell? ⟨gb400, 1, none⟩ = some (.int .u64 a0_1) := (blk_cell BK400.out 1).trans rfl; have hcz158_2 : w156.cell? ⟨gb400, 2, none⟩ = some (.string a0_2) := (blk_cell BK400.out 2).trans rfl; have hcz158_3 : w156.cell? ⟨gb400, 3, none⟩ = some (.slice A0_3 l0_3.length c0_3) := (blk_cell BK400.out 3).trans rfl; have hfz158_0 := blk_frozen BK400.out 0; have hfz158_1 := blk_frozen BK400.out 1; have hfz158_2 := blk_frozen BK400.out 2; have hfz158_3 := blk_frozen BK400.out 3) | ((with_reducible refine gate_store (t := 24) (p := 63) rfl ?_); refine store_event (t := 24) (p := 63) (v := ?vo_w159) (w1 := (w156.setCell ⟨gb400, 3, none⟩ (.slice Ao157 y404.length co157))) ?hg ?ho ?hn ?hr ?_; (case ho => rfl); (case hg => rfl); (case hn => rfl); (case hr => first | (go_simp; done) | (go_simp; rfl)); intro w159 hw; have n0_ : Aside0 (Kd.R k42 42 w159 w.heap.size (fun k_ => some k_ ≠ (.slice Ao145 y397.length co145 : Value).ownBlock ∧ some k_ ≠ (.slice Ao157 y404.length co157 : Value).ownBlock) (.slice Ao130 y379.length co130) y379) := ⟨(by rw [hw]; exact (by (with_reducible repeat (first | apply Kd.R_alloc | apply Kd.R_drewN | apply Kd.R_drew)); exact Kd.R_mono (Kd.R_far (p := ⟨gb400, 3, none⟩) (Kd.R_types HO381.out BK400.out (by decide)) (fun _ hk => hk.2) (.slice Ao157 y404.length co157)) (fun _ hk => ⟨hk.1.1, hk.1.2⟩)))⟩; have n1_ : Aside0 (Kd.R k42 42 w159 w.heap.size (fun k_ => some k_ ≠ (.slice Ao130 y379.length co130 : Value).ownBlock ∧ some k_ ≠ (.slice Ao157 y404.length co157 : Value).ownBlock) (.slice Ao145 y397.length co145) y397) := ⟨(by rw [hw]; exact (by (with_reducible repeat (first | apply Kd.R_alloc | apply Kd.R_drewN | apply Kd.R_drew)); exact Kd.R_mono (Kd.R_far (p := ⟨gb400, 3, none⟩) (Kd.R_types HO399.out BK400.out (by decide)) (fun _ hk => hk.2) (.slice Ao157 y404.length co157)) (fun _ hk => ⟨hk.1.1, hk.1.2⟩)))⟩; have n2_ : Aside0 (Kd.R k42 42 w159 w.heap.size (fun k_ => some k_ ≠ (.slice Ao130 y379.length co130 : Value).ownBlock ∧ some k_ ≠ (.slice Ao145 y397.length co145 : Value).ownBlock) (.slice Ao157 y404.length co157) y404) := ⟨(by rw [hw]; exact (by (with_reducible repeat (first | apply Kd.R_alloc | apply Kd.R_drewN | apply Kd.R_drew)); exact Kd.R_mono (Kd.R_far (p := ⟨gb400, 3, none⟩) (Kd.R_types HO406.out BK400.out (by decide)) (fun _ hk => hk.2) (.slice Ao157 y404.length co157)) (fun _ hk => ⟨hk.1.1, hk.1.2⟩)))⟩; have n3_ : Aside0 (w159.heap[gb312]? = some (.cells #[.int .u64 a0_0, .int .u64 a0_1, .string a0_2, .slice A0_3 l0_3.length c0_3] 26 (0, 0))) := ⟨(by rw [hw]; exact (by (with_reducible repeat (first | refine kN_ ?_ _ | refine kD_ ?_ | refine kA_ ?_ _)); refine blk_far ?_ NB312_400.out _; (with_reducible repeat (first | refine kN_ ?_ _ | refine kD_ ?_ | refine kA_ ?_ _)); exact BK312.out))⟩; have n4_ : Aside0 (w159.heap[gb364]? = some (.cells #[.int .u64 a0_0, .int .u64 a0_1, .string a0_2, .slice Ao130 y379.length co130] 26 (0, 0))) := ⟨(by rw [hw]; exact (by (with_reducible repeat (first | refine kN_ ?_ _ | refine kD_ ?_ | refine kA_ ?_ _)); refine blk_far ?_ NB364_400.out _; (with_reducible repeat (first | refine kN_ ?_ _ | refine kD_ ?_ | refine kA_ ?_ _)); exact BK364.out))⟩; have n5_ : Aside0 (w159.heap[gb382]? = some (.cells #[.int .u64 a0_0, .int .u64 a0_1, .string a0_2, .slice Ao145 y397.length co145] 26 (0, 0))) := ⟨(by rw [hw]; exact (by (with_reducible repeat (first | refine kN_ ?_ _ | refine kD_ ?_ | refine kA_ ?_ _)); refine blk_far ?_ NB382_400.out _; (with_reducible repeat (first | refine kN_ ?_ _ | refine kD_ ?_ | refine kA_ ?_ _)); exact BK382.out))⟩; have n6_ : Aside0 (w159.heap[gb400]? = some (.cells #[.int .u64 a0_0, .int .u64 a0_1, .string a0_2, .slice Ao157 y404.length co157] 26 (0, 0))) := ⟨(by rw [hw]; exact (by (with_reducible repeat (first | refine kN_ ?_ _ | refine kD_ ?_ | refine kA_ ?_ _)); refine blk_put (cs := #[.int .u64 a0_0, .int .u64 a0_1, .string a0_2, .slice A0_3 l0_3.length c0_3]) ?_ 3 _ rfl; (with_reducible repeat (first | refine kN_ ?_ _ | refine kD_ ?_ | refine kA_ ?_ _)); exact BK400.out))⟩; have n7_ : Aside0 (Below w.heap.size w w159) := ⟨(by rw [hw]; exact (by repeat (first | (with_reducible first | exact HB.out | apply bA_ | apply bN_ | apply b1_ | refine bS_ ?_ GE312.out | refine bS_ ?_ GE364.out | refine bS_ ?_ GE382.out | refine bS_ ?_ GE400.out) | exact HB.out)))⟩; clear hw; clear HO381; clear HO399; clear HO406; clear BK312; clear BK364; clear BK382; clear BK400; clear HB; have HO381 := n0_; have HO399 := n1_; have HO406 := n2_; have BK312 := n3_; have BK364 := n4_; have BK382 := n5_; have BK400 := n6_; have HB := n7_; clear n0_ n1_ n2_ n3_ n4_ n5_ n6_ n7_; have hcz160_0 : w159.cell? ⟨gb400, 0, none⟩ = some (.int .u64 a0_0) := (blk_cell BK400.out 0).trans rfl; have hcz160_1 : w159.cell? ⟨gb400, 1, none⟩ = some (.int .u64 a0_1) := (blk_cell BK400.out 1).trans rfl; have hcz160_2 : w159.cell? ⟨gb400, 2, none⟩ = some (.string a0_2) := (blk_cell BK400.out 2).trans rfl; have hcz160_3 : w159.cell? ⟨gb400, 3, none⟩ = some (.slice Ao157 y404.length co157) := (blk_cell BK400.out 3).trans rfl; have hfz160_0 := blk_frozen BK400.out 0; have hfz160_1 := blk_frozen BK400.out 1; have hfz160_2 := blk_frozen BK400.out 2; have hfz160_3 := blk_frozen BK400.out 3; have p110 : 0 ≤ ((ji94) : Int) := of_decide_eq_true (by first | (with_reducible assumption) | assumption); have q110 : ((ji94) : Int) < ((y404.length : Int) : Int) := of_decide_eq_true (by first | (with_reducible assumption) | assumption); obtain ⟨go110, co110, eo110, gb110, gl110, cl110, HG110⟩ := Kd.R_form HO406.out (by omega); (first | cases eo110 | (injection eo110 with ea_ en_ ec_; (first | subst ea_ | (injection ea_ with ea_; subst ea_)); subst ec_; clear en_)); have GB110 := a_ gb110; have GG110 := a_ HG110; clear gb110 gl110 HG110; obtain ⟨ce110, hcl110, hM110, hcc110, hfr110⟩ := Kd.R_elem HO406.out z42 ((ji94) : Int) p110 q110; obtain rfl := k42_openM hM110; have hx110_0 : w159.cell? ⟨go110, ((ji94) : Int).toNat * 3, none⟩ = some (.string ((rd_T42 y404 (ji94)).f0)) := hcc110 0 _ rfl; have hx110_1 : w159.cell? ⟨go110, ((ji94) : Int).toNat * 3 + 1, none⟩ = some (.string ((rd_T42 y404 (ji94)).f1)) := hcc110 1 _ rfl; have hx110_2 : w159.cell? ⟨go110, ((ji94) : Int).toNat * 3 + 2, none⟩ = some (.int .i64 ((rd_T42 y404 (ji94)).f2)) := hcc110 2 _ rfl; have hf110_0 : w159.frozen? ⟨go110, ((ji94) : Int).toNat * 3, none⟩ = false := hfr110 0; have hf110_1 : w159.frozen? ⟨go110, ((ji94) : Int).toNat * 3 + 1, none⟩ = false := hfr110 1; have hf110_2 : w159.frozen? ⟨go110, ((ji94) : Int).toNat * 3 + 2, none⟩ = false := hfr110 2; clear hcl110 hcc110 hfr110 hM110; replace p110 := eq_true p110; replace q110 := eq_true q110; have HX161 := a_ (show Kd.R k42 42 w159 w.heap.size (fun k_ => some k_ ≠ (.slice Ao130 y379.length co130 : Value).ownBlock ∧ some k_ ≠ (.slice Ao145 y397.length co145 : Value).ownBlock) (.slice (some ⟨go110, 0, none⟩) y404.length co157) y404 from (by (with_reducible repeat (first | apply Kd.R_alloc | apply Kd.R_drewN | apply Kd.R_drew)); exact HO406.out)); obtain ⟨ce161, hcl161, hM161, hcc161, hfr161⟩ := Kd.R_elem HX161.out z42 ((ji94) : Int) (of_decide_eq_true (by first | (with_reducible assumption) | assumption)) (by have h_ : ((ji94) : Int) < ((y404.length : Int) : Int) := of_decide_eq_true (by first | (with_reducible assumption) | assumption); first | exact h_ | (have e_ := (Kd.R_reads' HO406.out).1; omega) | simpa using h_); obtain rfl := k42_openM hM161; have HP161 := Kd.R_seg HX161.out ((ji94) : Int) (of_decide_eq_true (by first | (with_reducible assumption) | assumption)) (by have h_ : ((ji94) : Int) < ((y404.length : Int) : Int) := of_decide_eq_true (by first | (with_reducible assumption) | assumption); first | exact h_ | (have e_ := (Kd.R_reads' HO406.out).1; omega) | simpa using h_) (seg := [.int .i64 a2]) (j := 2) hcl161 hcc161 (show 3 ≤ 3 from by decide) (x' := (⟨(rd_T42 y404 (ji94)).f0, (rd_T42 y404 (ji94)).f1, a2⟩ : S42)) (k42_mkM _ _ _ (⟨(rd_T42 y404 (ji94)).f0, (rd_T42 y404 (ji94)).f1, a2⟩ : S42) ) (fun _ hk => hk); have hx161_2 := hcc161 2 _ rfl; (try simp only [show (k42).sz = 3 from rfl, Nat.mul_one, Nat.add_zero] at hx161_2); have hf161_2 := hfr161 2; (try simp only [show (k42).sz = 3 from rfl, Nat.mul_one, Nat.add_zero] at hf161_2); clear hcl161 hcc161 hfr161 hM161) | ((with_reducible refine gate_store (t := 2) (p := 69) rfl ?_); refine store_event (t := 2) (p := 69) (v := ?vo_w162) (w1 := (w159.setCell ⟨go110, ((ji94) : Int).toNat * 3 + 2, none⟩ (.int .i64 a2))) ?hg ?ho ?hn ?hr ?_; (case ho => rfl); (case hg => rfl); (case hn => rfl); (case hr => first | (go_simp; done) | (go_simp; rfl)); intro w162 hw; have hg : w159.grownBy w162 (some go110) := (by rw [hw]; exact HP161.2); have hp_ : Kd.R k42 42 w162 w.heap.size (fun k_ => some k_ ≠ (.slice Ao130 y379.length co130 : Value).ownBlock ∧ some k_ ≠ (.slice Ao145 y397.length co145 : Value).ownBlock) (.slice (some ⟨go110, 0, none⟩) y404.length co157) y407 := (by rw [hw, Ny407.out]; exact HP161.1); clear HP161; have n0_ := a_ (blk_grown (g := gb312) (o := .cells #[.int .u64 a0_0, .int .u64 a0_1, .string a0_2, .slice A0_3 l0_3.length c0_3] 26 (0, 0)) (by (with_reducible repeat (first | refine kN_ ?_ _ | refine kD_ ?_ | refine kA_ ?_ _)); exact BK312.out) hg (Kd.R_ne HO406.out BK312.out (by decide))); have n1_ := a_ (blk_grown (g := gb364) (o := .cells #[.int .u64 a0_0, .int .u64 a0_1, .string a0_2, .slice Ao130 y379.length co130] 26 (0, 0)) (by (with_reducible repeat (first | refine kN_ ?_ _ | refine kD_ ?_ | refine kA_ ?_ _)); exact BK364.out) hg (Kd.R_ne HO406.out BK364.out (by decide))); have n2_ := a_ (Kd.R_after (v := (.slice (some ⟨go110, 0, none⟩) y404.length co157)) (v1 := (.slice (some ⟨go110, 0, none⟩) y404.length co157)) (ok := (fun k_ => some k_ ≠ (.slice Ao145 y397.length co145 : Value).ownBlock)) (by (with_reducible repeat (first | apply Kd.R_alloc | apply Kd.R_drewN | apply Kd.R_drew)); exact HO381.out) hg (.inl rfl)); have n3_ := a_ (blk_grown (g := gb382) (o := .cells #[.int .u64 a0_0, .int .u64 a0_1, .string a0_2, .slice Ao145 y397.length co145] 26 (0, 0)) (by (with_reducible repeat (first | refine kN_ ?_ _ | refine kD_ ?_ | refine kA_ ?_ _)); exact BK382.out) hg (Kd.R_ne HO406.out BK382.out (by decide))); have n4_ := a_ (Kd.R_after (v := (.slice (some ⟨go110, 0, none⟩) y404.length co157)) (v1 := (.slice (some ⟨go110, 0, none⟩) y404.length co157)) (ok := (fun k_ => some k_ ≠ (.slice Ao130 y379.length co130 : Value).ownBlock)) (by (with_reducible repeat (first | apply Kd.R_alloc | apply Kd.R_drewN | apply Kd.R_drew)); exact HO399.out) hg (.inl rfl)); have n5_ := a_ (blk_grown (g := gb400) (o := .cells #[.int .u64 a0_0, .int .u64 a0_1, .string a0_2, .slice (some ⟨go110, 0, none⟩) y404.length co157] 26 (0, 0)) (by (with_reducible repeat (first | refine kN_ ?_ _ | refine kD_ ?_ | refine kA_ ?_ _)); exact BK400.out) hg (Kd.R_ne HO406.out BK400.out (by decide))); have n6_ := a_ (hp_); have n7_ := a_ ((by rw [hw]; exact below_set (HB.out) GB110.out : Below w.heap.size w w162)); clear BK312; clear BK364; clear HO381; clear BK382; clear HO399; clear BK400; clear HO406; clear HB; have BK312 := n0_; have BK364 := n1_; have HO381 := n2_; have BK382 := n3_; have HO399 := n4_; have BK400 := n5_; have HO406 := n6_; have HB := n7_; clear n0_ n1_ n2_ n3_ n4_ n5_ n6_ n7_; clear hg hw hp_))
                    have n0_ := a_ (Kd.R_drew HO381.out)
                    have n1_ := a_ (Kd.R_drew HO399.out)
                    have n2_ := a_ (Kd.R_drew HO406.out)
                    have n3_ := a_ (blk_drew BK312.out)
                    have n4_ := a_ (blk_drew BK364.out)
                    have n5_ := a_ (blk_drew BK382.out)
                    have n6_ := a_ (blk_drew BK400.out)
                    have n7_ := a_ (below_drew1 HB.out)
                    clear HO381
                    clear HO399
                    clear HO406
                    clear BK312
                    clear BK364
                    clear BK382
                    clear BK400
                    clear HB
                    have HO381 := n0_
                    have HO399 := n1_
                    have HO406 := n2_
                    have BK312 := n3_
                    have BK364 := n4_
                    have BK382 := n5_
                    have BK400 := n6_
                    have HB := n7_
                    clear n0_ n1_ n2_ n3_ n4_ n5_ n6_ n7_
                    have p411 : 0 ≤ ((ji94) : Int) := of_decide_eq_true (by first | (with_reducible assumption) | assumption)
                    have q411 : (ji94) < (l0_3.length : Int) := of_decide_eq_true (by first | (with_reducible assumption) | assumption)
                    obtain ⟨ad411, e411, hx411_0, hx411_1, hx411_2⟩ := at_T42 HR0_3.out (ji94) p411 q411
                    have hw411_2 := hx411_2
                    have hw411_1 := hx411_1
                    have hw411_0 := hx411_0
                    cases e411
                    replace hx411_0 := (HB.out.cell (World.block_lt_of_cell? w _ hx411_0)).trans hx411_0
                    replace hx411_1 := (HB.out.cell (World.block_lt_of_cell? w _ hx411_1)).trans hx411_1
                    replace hx411_2 := (HB.out.cell (World.block_lt_of_cell? w _ hx411_2)).trans hx411_2
                    replace p411 := eq_true p411
                    replace q411 := eq_true q411
                    refine start_ (n := 26) (S := fun w' => w'.cell? ⟨gb364, 0, none⟩ = some (.int .u64 a0_0) ∧ w'.cell? ⟨gb364, 1, none⟩ = some (.int .u64 a0_1) ∧ w'.cell? ⟨gb364, 2, none⟩ = some (.string a0_2) ∧ w'.cell? ⟨gb364, 3, none⟩ = some (.slice Ao130 y379.length co130) ∧ w'.cell? ⟨gb382, 0, none⟩ = some (.int .u64 a0_0) ∧ w'.cell? ⟨gb382, 1, none⟩ = some (.int .u64 a0_1) ∧ w'.cell? ⟨gb382, 2, none⟩ = some (.string a0_2) ∧ w'.cell? ⟨gb382, 3, none⟩ = some (.slice Ao145 y397.length co145) ∧ w'.cell? ⟨gb400, 0, none⟩ = some (.int .u64 a0_0) ∧ w'.cell? ⟨gb400, 1, none⟩ = some (.int .u64 a0_1) ∧ w'.cell? ⟨gb400, 2, none⟩ = some (.string a0_2) ∧ w'.cell? ⟨gb400, 3, none⟩ = some (.slice (some ⟨go110, 0, none⟩) y404.length co157) ∧ w'.cell? ⟨gb312, 0, none⟩ = some (.int .u64 a0_0) ∧ w'.cell? ⟨gb312, 1, none⟩ = some (.int .u64 a0_1) ∧ w'.cell? ⟨gb312, 2, none⟩ = some (.string a0_2) ∧ w'.cell? ⟨gb312, 3, none⟩ = some (.slice (some ad411) l0_3.length c0_3) ∧ w'.cell? (ad411.add (((ji94)).toNat * 3)) = some (.string ((rd_T42 l0_3 (ji94)).f0)) ∧ w'.cell? ⟨(ad411.add (((ji94)).toNat * 3)).block, (ad411.add (((ji94)).toNat * 3)).off + 1, none⟩ = some (.string ((rd_T42 l0_3 (ji94)).f1)) ∧ w'.cell? ⟨(ad411.add (((ji94)).toNat * 3)).block, (ad411.add (((ji94)).toNat * 3)).off + 2, none⟩ = some (.int .i64 ((rd_T42 l0_3 (ji94)).f2))) (ds := []) #[false, false, false, false, false, false, false, false, false, false, false, false, false, false, false, false, false, false, false, false, false, false, false, false, false, false] (by kernel_rfl) rfl rfl ⟨(blk_cell BK364.out 0).trans rfl, (blk_cell BK364.out 1).trans rfl, (blk_cell BK364.out 2).trans rfl, (blk_cell BK364.out 3).trans rfl, (blk_cell BK382.out 0).trans rfl, (blk_cell BK382.out 1).trans rfl, (blk_cell BK382.out 2).trans rfl, (blk_cell BK382.out 3).trans rfl, (blk_cell BK400.out 0).trans rfl, (blk_cell BK400.out 1).trans rfl, (blk_cell BK400.out 2).trans rfl, (blk_cell BK400.out 3).trans rfl, (blk_cell BK312.out 0).trans rfl, (blk_cell BK312.out 1).trans rfl, (blk_cell BK312.out 2).trans rfl, (blk_cell BK312.out 3).trans rfl, ((HB.out.cell (World.block_lt_of_cell? w _ hw411_0)).trans hw411_0), ((HB.out.cell (World.block_lt_of_cell? w _ hw411_1)).trans hw411_1), ((HB.out.cell (World.block_lt_of_cell? w _ hw411_2)).trans hw411_2)⟩ (fun hHeld => ?_); refine with_tabW cambistlaw12_JournalLegs.tab14 cambistlaw12_JournalLegs.bits14 (fun HT_ HW_ => ?_)
                    generalize w162.drew = w163 at HO381 HO399 HO406 BK312 BK364 BK382 BK400 HB hx411_0 hx411_1 hx411_2 hHeld ⊢
                    refine pure_ (i := 0) (N := some 70) (v := ?_) (a' := ?_) (fl_ 26 1) rfl rfl (any_of HT_.out (by kernel_rfl)) (fun _ _ _ h => h) (Or.inl ⟨by rfl, ?_⟩) ?_ ?_
                    rotate_left
                    ·intro w'
                     go_simp
                     with_reducible rfl
                    rotate_left
                    ·simp only [Act.put, sT_, s0_, sS_, i64_w, i32_w]
                     rfl
                    refine pure_ (i := 1) (N := some 71) (v := ?_) (a' := ?_) (fl_ 26 3) rfl rfl (any_of HT_.out (by kernel_rfl)) (fun _ _ _ h => h) (Or.inl ⟨by rfl, ?_⟩) ?_ ?_
                    rotate_left
                    ·intro w'
                     go_simp
                     with_reducible rfl
                    rotate_left
                    ·simp only [Act.put, sT_, s0_, sS_, i64_w, i32_w]
                     rfl
                    refine take_ (i := 2) (N := some 72) (v := ?_) (a' := ?_) (fl_ 26 7) rfl rfl (take_ofW HT_.out HW_.out (by kernel_rfl)) (fun _ _ _ h => h) (Or.inl ⟨by rfl, ?_⟩) hHeld ?_ ?_
                    rotate_left
                    ·rintro w' ⟨s0, s1, s2, s3, s4, s5, s6, s7, s8, s9, s10, s11, s12, s13, s14, s15, s16, s17, s18⟩
                     go_simp
                     with_reducible rfl
                    rotate_left
                    ·simp only [Act.put, sT_, s0_, sS_, i64_w, i32_w]
                     rfl
                    refine one_ (i := 3) (N := some 73) (fl_ 26 15) rfl rfl (one_of HT_.out (by kernel_rfl)) (by decide) (fun K hK => ?_)
                    refine goes_ Tryd.func13 (by kernel_rfl) rfl #[.agg #[.int .u64 a0_0, .int .u64 a0_1, .string a0_2, .slice Ao130 y379.length co130]] (by rfl) rfl rfl (by (try simp only [List.map_toArray, List.map_cons, List.map_nil]); first | done | rfl | (simp only [List.length_drop, List.length_take]; rfl)) ?_
                    with_reducible refine (journal_Check.calls a0_0 a0_1 a0_2 _ _ y379 t408 _ ?side1 ?side2 ?side3 A112.out).mono ?_
                    (case side1 => exact Glob.below HG.out (by repeat (first | (with_reducible first | exact HB.out | apply bA_ | apply bN_ | apply b1_ | refine bS_ ?_ GE312.out | refine bS_ ?_ GE364.out | refine bS_ ?_ GE382.out | refine bS_ ?_ GE400.out) | exact HB.out)))
                    (case side2 => repeat (first | exact (Kd.R_reads' HO381.out).2.2 | (with_reducible refine Kd.C_alloc ?_ _) | (with_reducible refine Kd.C_drewN ?_ _) | (with_reducible refine Kd.C_drew ?_)))
                    (case side3 => exact (Kd.R_reads' HO381.out).2.1)
                    rintro e w164 ⟨rfl, hb⟩
                    refine ⟨_, rfl, ?_⟩
                    have n0_ := a_ (Kd.R_below (by (with_reducible repeat (first | apply Kd.R_alloc | apply Kd.R_drewN | apply Kd.R_drew)); exact HO381.out) hb)
                    have n1_ := a_ (Kd.R_below (by (with_reducible repeat (first | apply Kd.R_alloc | apply Kd.R_drewN | apply Kd.R_drew)); exact HO399.out) hb)
                    have n2_ := a_ (Kd.R_below (by (with_reducible repeat (first | apply Kd.R_alloc | apply Kd.R_drewN | apply Kd.R_drew)); exact HO406.out) hb)
                    have n3_ := a_ (blk_below (g := gb312) (o := .cells #[.int .u64 a0_0, .int .u64 a0_1, .string a0_2, .slice (some ad411) l0_3.length c0_3] 26 (0, 0)) (by (with_reducible repeat (first | refine kN_ ?_ _ | refine kD_ ?_ | refine kA_ ?_ _)); exact BK312.out) hb)
                    have n4_ := a_ (blk_below (g := gb364) (o := .cells #[.int .u64 a0_0, .int .u64 a0_1, .string a0_2, .slice Ao130 y379.length co130] 26 (0, 0)) (by (with_reducible repeat (first | refine kN_ ?_ _ | refine kD_ ?_ | refine kA_ ?_ _)); exact BK364.out) hb)
                    have n5_ := a_ (blk_below (g := gb382) (o := .cells #[.int .u64 a0_0, .int .u64 a0_1, .string a0_2, .slice Ao145 y397.length co145] 26 (0, 0)) (by (with_reducible repeat (first | refine kN_ ?_ _ | refine kD_ ?_ | refine kA_ ?_ _)); exact BK382.out) hb)
                    have n6_ := a_ (blk_below (g := gb400) (o := .cells #[.int .u64 a0_0, .int .u64 a0_1, .string a0_2, .slice (some ⟨go110, 0, none⟩) y404.length co157] 26 (0, 0)) (by (with_reducible repeat (first | refine kN_ ?_ _ | refine kD_ ?_ | refine kA_ ?_ _)); exact BK400.out) hb)
                    have n7_ := a_ (below_step (by repeat (first | (with_reducible first | exact HB.out | apply bA_ | apply bN_ | apply b1_ | refine bS_ ?_ GE312.out | refine bS_ ?_ GE364.out | refine bS_ ?_ GE382.out | refine bS_ ?_ GE400.out) | exact HB.out)) hb)
                    clear HO381
                    clear HO399
                    clear HO406
                    clear BK312
                    clear BK364
                    clear BK382
                    clear BK400
                    clear HB
                    have HO381 := n0_
                    have HO399 := n1_
                    have HO406 := n2_
                    have BK312 := n3_
                    have BK364 := n4_
                    have BK382 := n5_
                    have BK400 := n6_
                    have HB := n7_
                    clear n0_ n1_ n2_ n3_ n4_ n5_ n6_ n7_
                    (try clear hb)
                    (try clear hb2)
                    (try clear hk)
                    (try clear hi)
                    refine hK.out _ _ ⟨(blk_cell BK364.out 0).trans rfl, (blk_cell BK364.out 1).trans rfl, (blk_cell BK364.out 2).trans rfl, (blk_cell BK364.out 3).trans rfl, (blk_cell BK382.out 0).trans rfl, (blk_cell BK382.out 1).trans rfl, (blk_cell BK382.out 2).trans rfl, (blk_cell BK382.out 3).trans rfl, (blk_cell BK400.out 0).trans rfl, (blk_cell BK400.out 1).trans rfl, (blk_cell BK400.out 2).trans rfl, (blk_cell BK400.out 3).trans rfl, (blk_cell BK312.out 0).trans rfl, (blk_cell BK312.out 1).trans rfl, (blk_cell BK312.out 2).trans rfl, (blk_cell BK312.out 3).trans rfl, ((HB.out.cell (World.block_lt_of_cell? w _ hw411_0)).trans hw411_0), ((HB.out.cell (World.block_lt_of_cell? w _ hw411_1)).trans hw411_1), ((HB.out.cell (World.block_lt_of_cell? w _ hw411_2)).trans hw411_2)⟩ (fun hHeld => ?_)
                    clear hK K
                    refine norm_ (a' := ?_) ?_ ?_
                    rotate_left
                    ·show Act.put _ (some 73) _ = _
                     simp only [Act.put, sT_, s0_, sS_, i64_w, i32_w]
                     rfl
                    refine pure_ (i := 4) (N := some 74) (v := ?_) (a' := ?_) (fl_ 26 31) rfl rfl (any_of HT_.out (by kernel_rfl)) (fun _ _ _ h => h) (Or.inl ⟨by rfl, ?_⟩) ?_ ?_
                    rotate_left
                    ·intro w'
                     go_simp
                     with_reducible rfl
                    rotate_left
                    ·simp only [Act.put, sT_, s0_, sS_, i64_w, i32_w]
                     rfl
                    refine pure_ (i := 5) (N := some 75) (v := ?_) (a' := ?_) (fl_ 26 63) rfl rfl (any_of HT_.out (by kernel_rfl)) (fun _ _ _ h => h) (Or.inl ⟨by rfl, ?_⟩) ?_ ?_
                    rotate_left
                    ·intro w'
                     go_simp
                     with_reducible rfl
                    rotate_left
                    ·simp only [Act.put, sT_, s0_, sS_, i64_w, i32_w]
                     rfl
                    refine pure_ (i := 6) (N := some 76) (v := ?_) (a' := ?_) (fl_ 26 127) rfl rfl (any_of HT_.out (by kernel_rfl)) (fun _ _ _ h => h) (Or.inl ⟨by rfl, ?_⟩) ?_ ?_
                    rotate_left
                    ·intro w'
                     go_simp
                     with_reducible rfl
                    rotate_left
                    ·simp only [Act.put, sT_, s0_, sS_, i64_w, i32_w]
                     rfl
                    refine take_ (i := 7) (N := some 77) (v := ?_) (a' := ?_) (fl_ 26 255) rfl rfl (take_ofW HT_.out HW_.out (by kernel_rfl)) (fun _ _ _ h => h) (Or.inl ⟨by rfl, ?_⟩) hHeld ?_ ?_
                    rotate_left
                    ·rintro w' ⟨s0, s1, s2, s3, s4, s5, s6, s7, s8, s9, s10, s11, s12, s13, s14, s15, s16, s17, s18⟩
                     go_simp
                     with_reducible rfl
                    rotate_left
                    ·simp only [Act.put, sT_, s0_, sS_, i64_w, i32_w]
                     rfl
                    refine one_ (i := 8) (N := some 78) (fl_ 26 511) rfl rfl (one_of HT_.out (by kernel_rfl)) (by decide) (fun K hK => ?_)
                    refine goes_ Tryd.func13 (by kernel_rfl) rfl #[.agg #[.int .u64 a0_0, .int .u64 a0_1, .string a0_2, .slice Ao145 y397.length co145]] (by rfl) rfl rfl (by (try simp only [List.map_toArray, List.map_cons, List.map_nil]); first | done | rfl | (simp only [List.length_drop, List.length_take]; rfl)) ?_
                    with_reducible refine (journal_Check.calls a0_0 a0_1 a0_2 _ _ y397 t409 _ ?side1 ?side2 ?side3 A114.out).mono ?_
                    (case side1 => exact Glob.below HG.out (by repeat (first | (with_reducible first | exact HB.out | apply bA_ | apply bN_ | apply b1_ | refine bS_ ?_ GE312.out | refine bS_ ?_ GE364.out | refine bS_ ?_ GE382.out | refine bS_ ?_ GE400.out) | exact HB.out)))
                    (case side2 => repeat (first | exact (Kd.R_reads' HO399.out).2.2 | (with_reducible refine Kd.C_alloc ?_ _) | (with_reducible refine Kd.C_drewN ?_ _) | (with_reducible refine Kd.C_drew ?_)))
                    (case side3 => exact (Kd.R_reads' HO399.out).2.1)
                    rintro e w165 ⟨rfl, hb⟩
                    refine ⟨_, rfl, ?_⟩
                    have n0_ := a_ (Kd.R_below (by (with_reducible repeat (first | apply Kd.R_alloc | apply Kd.R_drewN | apply Kd.R_drew)); exact HO381.out) hb)
                    have n1_ := a_ (Kd.R_below (by (with_reducible repeat (first | apply Kd.R_alloc | apply Kd.R_drewN | apply Kd.R_drew)); exact HO399.out) hb)
                    have n2_ := a_ (Kd.R_below (by (with_reducible repeat (first | apply Kd.R_alloc | apply Kd.R_drewN | apply Kd.R_drew)); exact HO406.out) hb)
                    have n3_ := a_ (blk_below (g := gb312) (o := .cells #[.int .u64 a0_0, .int .u64 a0_1, .string a0_2, .slice (some ad411) l0_3.length c0_3] 26 (0, 0)) (by (with_reducible repeat (first | refine kN_ ?_ _ | refine kD_ ?_ | refine kA_ ?_ _)); exact BK312.out) hb)
                    have n4_ := a_ (blk_below (g := gb364) (o := .cells #[.int .u64 a0_0, .int .u64 a0_1, .string a0_2, .slice Ao130 y379.length co130] 26 (0, 0)) (by (with_reducible repeat (first | refine kN_ ?_ _ | refine kD_ ?_ | refine kA_ ?_ _)); exact BK364.out) hb)
                    have n5_ := a_ (blk_below (g := gb382) (o := .cells #[.int .u64 a0_0, .int .u64 a0_1, .string a0_2, .slice Ao145 y397.length co145] 26 (0, 0)) (by (with_reducible repeat (first | refine kN_ ?_ _ | refine kD_ ?_ | refine kA_ ?_ _)); exact BK382.out) hb)
                    have n6_ := a_ (blk_below (g := gb400) (o := .cells #[.int .u64 a0_0, .int .u64 a0_1, .string a0_2, .slice (some ⟨go110, 0, none⟩) y404.length co157] 26 (0, 0)) (by (with_reducible repeat (first | refine kN_ ?_ _ | refine kD_ ?_ | refine kA_ ?_ _)); exact BK400.out) hb)
                    have n7_ := a_ (below_step (by repeat (first | (with_reducible first | exact HB.out | apply bA_ | apply bN_ | apply b1_ | refine bS_ ?_ GE312.out | refine bS_ ?_ GE364.out | refine bS_ ?_ GE382.out | refine bS_ ?_ GE400.out) | exact HB.out)) hb)
                    clear HO381
                    clear HO399
                    clear HO406
                    clear BK312
                    clear BK364
                    clear BK382
                    clear BK400
                    clear HB
                    have HO381 := n0_
                    have HO399 := n1_
                    have HO406 := n2_
                    have BK312 := n3_
                    have BK364 := n4_
                    have BK382 := n5_
                    have BK400 := n6_
                    have HB := n7_
                    clear n0_ n1_ n2_ n3_ n4_ n5_ n6_ n7_
                    (try clear hb)
                    (try clear hb2)
                    (try clear hk)
                    (try clear hi)
                    refine hK.out _ _ ⟨(blk_cell BK364.out 0).trans rfl, (blk_cell BK364.out 1).trans rfl, (blk_cell BK364.out 2).trans rfl, (blk_cell BK364.out 3).trans rfl, (blk_cell BK382.out 0).trans rfl, (blk_cell BK382.out 1).trans rfl, (blk_cell BK382.out 2).trans rfl, (blk_cell BK382.out 3).trans rfl, (blk_cell BK400.out 0).trans rfl, (blk_cell BK400.out 1).trans rfl, (blk_cell BK400.out 2).trans rfl, (blk_cell BK400.out 3).trans rfl, (blk_cell BK312.out 0).trans rfl, (blk_cell BK312.out 1).trans rfl, (blk_cell BK312.out 2).trans rfl, (blk_cell BK312.out 3).trans rfl, ((HB.out.cell (World.block_lt_of_cell? w _ hw411_0)).trans hw411_0), ((HB.out.cell (World.block_lt_of_cell? w _ hw411_1)).trans hw411_1), ((HB.out.cell (World.block_lt_of_cell? w _ hw411_2)).trans hw411_2)⟩ (fun hHeld => ?_)
                    clear hK K
                    refine norm_ (a' := ?_) ?_ ?_
                    rotate_left
                    ·show Act.put _ (some 78) _ = _
                     simp only [Act.put, sT_, s0_, sS_, i64_w, i32_w]
                     rfl
                    refine pure_ (i := 9) (N := some 79) (v := ?_) (a' := ?_) (fl_ 26 1023) rfl rfl (any_of HT_.out (by kernel_rfl)) (fun _ _ _ h => h) (Or.inl ⟨by rfl, ?_⟩) ?_ ?_
                    rotate_left
                    ·intro w'
                     go_simp
                     with_reducible rfl
                    rotate_left
                    ·simp only [Act.put, sT_, s0_, sS_, i64_w, i32_w]
                     rfl
                    refine pure_ (i := 10) (N := some 80) (v := ?_) (a' := ?_) (fl_ 26 2047) rfl rfl (any_of HT_.out (by kernel_rfl)) (fun _ _ _ h => h) (Or.inl ⟨by rfl, ?_⟩) ?_ ?_
                    rotate_left
                    ·intro w'
                     go_simp
                     with_reducible rfl
                    rotate_left
                    ·simp only [Act.put, sT_, s0_, sS_, i64_w, i32_w]
                     rfl
                    refine pure_ (i := 11) (N := some 81) (v := ?_) (a' := ?_) (fl_ 26 4095) rfl rfl (any_of HT_.out (by kernel_rfl)) (fun _ _ _ h => h) (Or.inl ⟨by rfl, ?_⟩) ?_ ?_
                    rotate_left
                    ·intro w'
                     go_simp
                     with_reducible rfl
                    rotate_left
                    ·simp only [Act.put, sT_, s0_, sS_, i64_w, i32_w]
                     rfl
                    refine pure_ (i := 15) (N := some 85) (v := ?_) (a' := ?_) (fl_ 26 36863) rfl rfl (any_of HT_.out (by kernel_rfl)) (fun _ _ _ h => h) (Or.inl ⟨by rfl, ?_⟩) ?_ ?_
                    rotate_left
                    ·intro w'
                     go_simp
                     with_reducible rfl
                    rotate_left
                    ·simp only [Act.put, sT_, s0_, sS_, i64_w, i32_w]
                     rfl
                    refine pure_ (i := 16) (N := some 86) (v := ?_) (a' := ?_) (fl_ 26 102399) rfl rfl (any_of HT_.out (by kernel_rfl)) (fun _ _ _ h => h) (Or.inl ⟨by rfl, ?_⟩) ?_ ?_
                    rotate_left
                    ·intro w'
                     go_simp
                     with_reducible rfl
                    rotate_left
                    ·simp only [Act.put, sT_, s0_, sS_, i64_w, i32_w]
                     rfl
                    refine pure_ (i := 18) (N := some 88) (v := ?_) (a' := ?_) (fl_ 26 364543) rfl rfl (any_of HT_.out (by kernel_rfl)) (fun _ _ _ h => h) (Or.inl ⟨by rfl, ?_⟩) ?_ ?_
                    rotate_left
                    ·intro w'
                     go_simp
                     with_reducible rfl
                    rotate_left
                    ·simp only [Act.put, sT_, s0_, sS_, i64_w, i32_w]
                     rfl
                    refine take_ (i := 12) (N := some 82) (v := ?_) (a' := ?_) (fl_ 26 368639) rfl rfl (take_ofW HT_.out HW_.out (by kernel_rfl)) (fun _ _ _ h => h) (Or.inl ⟨by rfl, ?_⟩) hHeld ?_ ?_
                    rotate_left
                    ·rintro w' ⟨s0, s1, s2, s3, s4, s5, s6, s7, s8, s9, s10, s11, s12, s13, s14, s15, s16, s17, s18⟩
                     go_simp
                     with_reducible rfl
                    rotate_left
                    ·simp only [Act.put, sT_, s0_, sS_, i64_w, i32_w]
                     rfl
                    refine take_ (i := 17) (N := some 87) (v := ?_) (a' := ?_) (fl_ 26 499711) rfl rfl (take_ofW HT_.out HW_.out (by kernel_rfl)) (fun _ _ _ h => h) (Or.inl ⟨by rfl, ?_⟩) hHeld ?_ ?_
                    rotate_left
                    ·rintro w' ⟨s0, s1, s2, s3, s4, s5, s6, s7, s8, s9, s10, s11, s12, s13, s14, s15, s16, s17, s18⟩
                     go_simp
                     with_reducible rfl
                    rotate_left
                    ·simp only [Act.put, sT_, s0_, sS_, i64_w, i32_w]
                     rfl
                    refine pure_ (i := 19) (N := some 89) (v := ?_) (a' := ?_) (fl_ 26 1023999) rfl rfl (any_of HT_.out (by kernel_rfl)) (fun _ _ _ h => h) (Or.inl ⟨by rfl, ?_⟩) ?_ ?_
                    rotate_left
                    ·intro w'
                     go_simp
                     with_reducible rfl
                    rotate_left
                    ·simp only [Act.put, sT_, s0_, sS_, i64_w, i32_w]
                     rfl
                    refine pure_ (i := 20) (N := some 90) (v := ?_) (a' := ?_) (fl_ 26 2072575) rfl rfl (any_of HT_.out (by kernel_rfl)) (fun _ _ _ h => h) (Or.inl ⟨by rfl, ?_⟩) ?_ ?_
                    rotate_left
                    ·intro w'
                     go_simp
                     with_reducible rfl
                    rotate_left
                    ·simp only [Act.put, sT_, s0_, sS_, i64_w, i32_w]
                     rfl
                    refine take_ (i := 21) (N := some 91) (v := ?_) (a' := ?_) (fl_ 26 4169727) rfl rfl (take_ofW HT_.out HW_.out (by kernel_rfl)) (fun _ _ _ h => h) (Or.inl ⟨by rfl, ?_⟩) hHeld ?_ ?_
                    rotate_left
                    ·rintro w' ⟨s0, s1, s2, s3, s4, s5, s6, s7, s8, s9, s10, s11, s12, s13, s14, s15, s16, s17, s18⟩
                     go_simp
                     with_reducible rfl
                    rotate_left
                    ·simp only [Act.put, sT_, s0_, sS_, i64_w, i32_w]
                     rfl
                    refine pure_ (i := 22) (N := some 92) (v := ?_) (a' := ?_) (fl_ 26 8364031) rfl rfl (any_of HT_.out (by kernel_rfl)) (fun _ _ _ h => h) (Or.inl ⟨by rfl, ?_⟩) ?_ ?_
                    rotate_left
                    ·intro w'
                     go_simp
                     with_reducible rfl
                    rotate_left
                    ·simp only [Act.put, sT_, s0_, sS_, i64_w, i32_w]
                     rfl
                    refine one_ (i := 13) (N := some 83) (fl_ 26 8372223) rfl rfl (one_of HT_.out (by kernel_rfl)) (by decide) (fun K hK => ?_)
                    refine goes_ Tryd.func13 (by kernel_rfl) rfl #[.agg #[.int .u64 a0_0, .int .u64 a0_1, .string a0_2, .slice (some ⟨go110, 0, none⟩) y407.length co157]] (by rfl) rfl rfl (by (try simp only [List.map_toArray, List.map_cons, List.map_nil]); first | done | (rw [show y407.length = y404.length from (Kd.R_reads' HO406.out).1.symm] <;> rfl) | rfl | (simp only [List.length_drop, List.length_take]; rfl)) ?_
                    with_reducible refine (journal_Check.calls a0_0 a0_1 a0_2 _ _ y407 t410 _ ?side1 ?side2 ?side3 A116.out).mono ?_
                    (case side1 => exact Glob.below HG.out (by repeat (first | (with_reducible first | exact HB.out | apply bA_ | apply bN_ | apply b1_ | refine bS_ ?_ GE312.out | refine bS_ ?_ GE364.out | refine bS_ ?_ GE382.out | refine bS_ ?_ GE400.out) | exact HB.out)))
                    (case side2 => repeat (first | exact (Kd.R_reads' HO406.out).2.2 | (with_reducible refine Kd.C_alloc ?_ _) | (with_reducible refine Kd.C_drewN ?_ _) | (with_reducible refine Kd.C_drew ?_)))
                    (case side3 => rw [show y407.length = y404.length from (Kd.R_reads' HO406.out).1.symm]; exact (Kd.R_reads' HO406.out).2.1)
                    rintro e w166 ⟨rfl, hb⟩
                    refine ⟨_, rfl, ?_⟩
                    have n0_ := a_ (Kd.R_below (by (with_reducible repeat (first | apply Kd.R_alloc | apply Kd.R_drewN | apply Kd.R_drew)); exact HO381.out) hb)
                    have n1_ := a_ (Kd.R_below (by (with_reducible repeat (first | apply Kd.R_alloc | apply Kd.R_drewN | apply Kd.R_drew)); exact HO399.out) hb)
                    have n2_ := a_ (Kd.R_below (by (with_reducible repeat (first | apply Kd.R_alloc | apply Kd.R_drewN | apply Kd.R_drew)); exact HO406.out) hb)
                    have n3_ := a_ (blk_below (g := gb312) (o := .cells #[.int .u64 a0_0, .int .u64 a0_1, .string a0_2, .slice (some ad411) l0_3.length c0_3] 26 (0, 0)) (by (with_reducible repeat (first | refine kN_ ?_ _ | refine kD_ ?_ | refine kA_ ?_ _)); exact BK312.out) hb)
                    have n4_ := a_ (blk_below (g := gb364) (o := .cells #[.int .u64 a0_0, .int .u64 a0_1, .string a0_2, .slice Ao130 y379.length co130] 26 (0, 0)) (by (with_reducible repeat (first | refine kN_ ?_ _ | refine kD_ ?_ | refine kA_ ?_ _)); exact BK364.out) hb)
                    have n5_ := a_ (blk_below (g := gb382) (o := .cells #[.int .u64 a0_0, .int .u64 a0_1, .string a0_2, .slice Ao145 y397.length co145] 26 (0, 0)) (by (with_reducible repeat (first | refine kN_ ?_ _ | refine kD_ ?_ | refine kA_ ?_ _)); exact BK382.out) hb)
                    have n6_ := a_ (blk_below (g := gb400) (o := .cells #[.int .u64 a0_0, .int .u64 a0_1, .string a0_2, .slice (some ⟨go110, 0, none⟩) y404.length co157] 26 (0, 0)) (by (with_reducible repeat (first | refine kN_ ?_ _ | refine kD_ ?_ | refine kA_ ?_ _)); exact BK400.out) hb)
                    have n7_ := a_ (below_step (by repeat (first | (with_reducible first | exact HB.out | apply bA_ | apply bN_ | apply b1_ | refine bS_ ?_ GE312.out | refine bS_ ?_ GE364.out | refine bS_ ?_ GE382.out | refine bS_ ?_ GE400.out) | exact HB.out)) hb)
                    clear HO381
                    clear HO399
                    clear HO406
                    clear BK312
                    clear BK364
                    clear BK382
                    clear BK400
                    clear HB
                    have HO381 := n0_
                    have HO399 := n1_
                    have HO406 := n2_
                    have BK312 := n3_
                    have BK364 := n4_
                    have BK382 := n5_
                    have BK400 := n6_
                    have HB := n7_
                    clear n0_ n1_ n2_ n3_ n4_ n5_ n6_ n7_
                    (try clear hb)
                    (try clear hb2)
                    (try clear hk)
                    (try clear hi)
                    refine hK.out _ _ ⟨(blk_cell BK364.out 0).trans rfl, (blk_cell BK364.out 1).trans rfl, (blk_cell BK364.out 2).trans rfl, (blk_cell BK364.out 3).trans rfl, (blk_cell BK382.out 0).trans rfl, (blk_cell BK382.out 1).trans rfl, (blk_cell BK382.out 2).trans rfl, (blk_cell BK382.out 3).trans rfl, (blk_cell BK400.out 0).trans rfl, (blk_cell BK400.out 1).trans rfl, (blk_cell BK400.out 2).trans rfl, (blk_cell BK400.out 3).trans rfl, (blk_cell BK312.out 0).trans rfl, (blk_cell BK312.out 1).trans rfl, (blk_cell BK312.out 2).trans rfl, (blk_cell BK312.out 3).trans rfl, ((HB.out.cell (World.block_lt_of_cell? w _ hw411_0)).trans hw411_0), ((HB.out.cell (World.block_lt_of_cell? w _ hw411_1)).trans hw411_1), ((HB.out.cell (World.block_lt_of_cell? w _ hw411_2)).trans hw411_2)⟩ (fun hHeld => ?_)
                    clear hK K
                    refine norm_ (a' := ?_) ?_ ?_
                    rotate_left
                    ·show Act.put _ (some 83) _ = _
                     simp only [Act.put, sT_, s0_, sS_, i64_w, i32_w]
                     rfl
                    refine pure_ (i := 14) (N := some 84) (v := ?_) (a' := ?_) (fl_ 26 8388607) rfl rfl (any_of HT_.out (by kernel_rfl)) (fun _ _ _ h => h) (Or.inl ⟨by rfl, ?_⟩) ?_ ?_
                    rotate_left
                    ·intro w'
                     go_simp
                     with_reducible rfl
                    rotate_left
                    ·simp only [Act.put, sT_, s0_, sS_, i64_w, i32_w]
                     rfl
                    refine pure_ (i := 23) (N := some 93) (v := ?_) (a' := ?_) (fl_ 26 16777215) rfl rfl (any_of HT_.out (by kernel_rfl)) (fun _ _ _ h => h) (Or.inl ⟨by rfl, ?_⟩) ?_ ?_
                    rotate_left
                    ·intro w'
                     go_simp
                     with_reducible rfl
                    rotate_left
                    ·simp only [Act.put, sT_, s0_, sS_, i64_w, i32_w]
                     rfl
                    refine pure_ (i := 24) (N := some 94) (v := ?_) (a' := ?_) (fl_ 26 33554431) rfl rfl (any_of HT_.out (by kernel_rfl)) (fun _ _ _ h => h) (Or.inl ⟨by rfl, ?_⟩) ?_ ?_
                    rotate_left
                    ·intro w'
                     go_simp
                     with_reducible rfl
                    rotate_left
                    ·simp only [Act.put, sT_, s0_, sS_, i64_w, i32_w]
                     rfl
                    refine pure_ (i := 25) (N := some 6) (v := ?_) (a' := ?_) (fl_ 26 67108863) rfl rfl (any_of HT_.out (by kernel_rfl)) (fun _ _ _ h => h) (Or.inl ⟨by rfl, ?_⟩) ?_ ?_
                    rotate_left
                    ·intro w'
                     go_simp
                     with_reducible rfl
                    rotate_left
                    ·simp only [Act.put, sT_, s0_, sS_, i64_w, i32_w]
                     rfl
                    refine done_ (done_of HT_.out (by kernel_rfl)) ?_
                    try go_wp2
                    go_ret
                    exact ⟨by first | rfl | (simp [errW_none, errW_some] <;> rfl) | (simp only [← hji94, ← hji104]; first | rfl | (simp [errW_none, errW_some] <;> rfl)) | (simp [*, errW_none, errW_some] <;> rfl), by repeat (first | (with_reducible first | exact HB.out | apply bA_ | apply bN_ | apply b1_ | refine bS_ ?_ GE312.out | refine bS_ ?_ GE364.out | refine bS_ ?_ GE382.out | refine bS_ ?_ GE400.out) | exact HB.out)⟩
                   ·rw [if_neg c117] at H
                    exact absurd H (by simp)
                  ·rw [if_neg c115] at H
                   exact absurd H (by simp)
                 ·rw [if_neg c113] at H
                  exact absurd H (by simp)
                ·replace c111 := Bool.eq_false_iff.mpr c111
                 subst c111
                 have H1 : (none) = some r := by rw [if_neg (show ¬ (false = true) by decide)] at H; exact H
                 clear H
                 have H := H1
                 clear H1
                 exact absurd H (by simp)
               ·rw [if_neg c109] at H
                exact absurd H (by simp)
              ·rw [if_neg c108] at H
               exact absurd H (by simp)
             ·rw [if_neg c107] at H
              exact absurd H (by simp)
            ·rw [if_neg c106] at H
             exact absurd H (by simp)
           ·rw [if_neg c105] at H
            exact absurd H (by simp)
          ·rw [if_neg c103] at H
           exact absurd H (by simp)
         ·rw [if_neg c100] at H
          exact absurd H (by simp)
        ·rw [if_neg c97] at H
         exact absurd H (by simp)
       ·rw [if_neg c96] at H
        exact absurd H (by simp)
      ·rw [if_neg c95] at H
       exact absurd H (by simp)

end Go.Proofs.YtjlifcbddednaaaDoor.P
