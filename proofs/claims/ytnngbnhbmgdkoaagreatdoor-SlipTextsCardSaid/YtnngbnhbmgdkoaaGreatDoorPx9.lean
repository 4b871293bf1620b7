-- Laid by wip/tools/cprint.py of this claim's own repo (over the kit's print).
import Derived.Test.YtnngbnhbmgdkoaaGreatDoorSq
import Derived.Test.YtnngbnhbmgdkoaaGreatDoorPx0
import Derived.Test.YtnngbnhbmgdkoaaGreatDoorPx7
import Derived.Test.YtnngbnhbmgdkoaaGreatDoorPx8
import Derived.Test.YtnngbnhbmgdkoaaGreatDoorPx9d
namespace Go.Proofs.YtnngbnhbmgdkoaaGreatDoor.P
open Go.RowKit Go.Proofs.YtnngbnhbmgdkoaaGreatDoor.E Go.Proofs.YtnngbnhbmgdkoaaGreatDoorW.PrintWords Go.Proofs.YtnngbnhbmgdkoaaGreatDoorW.PrintLast
set_option linter.unusedVariables false
set_option linter.unusedSimpArgs false

theorem far6_ {w : World} {g i0 i1 i2 i3 i4 i5 : Nat} {a : Addr} {v : Option Value} {u0 u1 u2 u3 u4 u5 : Value} (ha : a.block ≠ g) (hv : w.cell? a = v) :
  ((((((w.setCell ⟨g, i0, none⟩ u0).setCell ⟨g, i1, none⟩ u1).setCell ⟨g, i2, none⟩ u2).setCell ⟨g, i3, none⟩ u3).setCell ⟨g, i4, none⟩ u4).setCell ⟨g, i5, none⟩ u5).cell? a = v := by
 rw [cell_far (p := ⟨g, i5, none⟩) ha, cell_far (p := ⟨g, i4, none⟩) ha, cell_far (p := ⟨g, i3, none⟩) ha, cell_far (p := ⟨g, i2, none⟩) ha, cell_far (p := ⟨g, i1, none⟩) ha, cell_far (p := ⟨g, i0, none⟩) ha]
 exact hv
def cambistref19_Parse.T9 : Bool × List (List Nat × List Nat) := (true, [([], []), ([0], [0]), ([1], [1]), ([], []), ([3], [3]), ([4], [4]), ([], []), ([6], [6]), ([7], [7]), ([8], [8]), ([], []), ([10], [10]), ([11], [11]), ([12, 9], [12]), ([], []), ([14], [14]), ([15], [15]), ([16, 13], [16]), ([2, 5, 9, 13, 17], [2, 5, 9, 13, 17]), ([], []), ([19, 18, 17, 0, 1, 2, 3, 4, 5, 6, 7, 8, 9, 10, 11, 12, 13, 14, 15, 16, 17, 18, 19], [18, 19])])
def cambistref19_Parse.B9 : List Nat := [0, 1, 3, 0, 8, 24, 0, 64, 192, 448, 0, 1024, 3072, 8128, 0, 16384, 49152, 131008, 262143, 0, 1048575]
theorem cambistref19_Parse.tab9 : rtab .any (opsOf Tryz.f9 9) = cambistref19_Parse.T9 := by kernel_rfl
theorem cambistref19_Parse.bits9 : waitsOk cambistref19_Parse.T9.2 cambistref19_Parse.B9 = true := by kernel_rfl
def cambistref19_Parse.T16 : Bool × List (List Nat × List Nat) := (true, [([], []), ([0], [0]), ([], []), ([2], [2]), ([3], [3]), ([4], [4]), ([], []), ([6], [6]), ([7], [7]), ([], []), ([9], [9]), ([10], [10]), ([11, 5], [11]), ([5, 8, 12], [5, 8, 12]), ([13], [13]), ([1, 14, 12], [1, 14]), ([0, 1, 2, 3, 4, 5, 6, 7, 8, 9, 10, 11, 12, 13, 14, 15], []), ([16, 15, 15, 0, 1, 2, 3, 4, 5, 6, 7, 8, 9, 10, 11, 12, 13, 14, 15], [15, 16])])
def cambistref19_Parse.B16 : List Nat := [0, 1, 0, 4, 12, 28, 0, 64, 192, 0, 512, 1536, 3644, 8188, 16380, 32767, 65535, 131071]
theorem cambistref19_Parse.tab16 : rtab .any (opsOf Tryz.f9 16) = cambistref19_Parse.T16 := by kernel_rfl
theorem cambistref19_Parse.bits16 : waitsOk cambistref19_Parse.T16.2 cambistref19_Parse.B16 = true := by kernel_rfl
set_option maxHeartbeats 8000000 in
set_option maxRecDepth 100000 in
theorem cambistref19_Parse.calls (k : Nat) (a0 : ByteArray) (r1 : ByteArray) (r2 : ByteArray) (r3 : Int) (r4 : Int) (r5 : List (S37)) (r6 : Int) (r7 : Int) (w : World) (hG : Glob w) (h : cambistref19_Parse.f k a0 = some (r1, r2, r3, r4, r5, r6, r7)) :
  Calls Tryz.prog 9 #[.string a0] w fun e w' => ∃ v4_ : Value, e = .returned (.tuple #[.agg #[.string r1, .string r2, .int .u64 r3, .int .i64 r4, v4_, .int .i64 r6], .int .i64 r7]) ∧ Kd.R k37 37 w' w.heap.size (fun _ => True) v4_ r5 ∧ Below w.heap.size w w' := by
 have hu25 := Tryz.underlying25
 have hu37 := Tryz.underlying37
 have HG := a_ hG
 clear hG
 have HB := a_ (Below.refl w.heap.size w)
 have H : ((cambistref19_lines.f k a0).bind fun t238 => (if (t238.length : Int) < 3 then (some ((⟨#[]⟩ : ByteArray), (⟨#[]⟩ : ByteArray), 0, 0, ([] : List (S37)), 0, 190)) else (if 0 < (t238.length : Int) then ((cambistref19_Words.f k (rdOf ByteArray.empty t238 0)).bind fun t242 => (if 1 < (t238.length : Int) then ((cambistref19_Words.f k (rdOf ByteArray.empty t238 1)).bind fun t246 => (if 0 ≤ (wrap64 ((t238.length : Int) - 1)) then (if (wrap64 ((t238.length : Int) - 1)) < (t238.length : Int) then ((cambistref19_Words.f k (rdOf ByteArray.empty t238 (wrap64 ((t238.length : Int) - 1)))).bind fun t250 => (if (t242.length : Int) = 4 then (if (t246.length : Int) = 2 then (cambistref19_Parse.j0 k a0 t238 t242 t246 t250 ((t250.length : Int) != 2)) else (cambistref19_Parse.j0 k a0 t238 t242 t246 t250 true)) else (cambistref19_Parse.j0 k a0 t238 t242 t246 t250 true))) else (none)) else (none))) else (none))) else (none)))) = some (r1, r2, r3, r4, r5, r6, r7) := h
 clear h
 replace H := Option.bind_eq_some_iff.mp H
 obtain ⟨t238, A20, H⟩ := H
 replace H : (if (t238.length : Int) < 3 then (some ((⟨#[]⟩ : ByteArray), (⟨#[]⟩ : ByteArray), 0, 0, ([] : List (S37)), 0, 190)) else (if 0 < (t238.length : Int) then ((cambistref19_Words.f k (rdOf ByteArray.empty t238 0)).bind fun t242 => (if 1 < (t238.length : Int) then ((cambistref19_Words.f k (rdOf ByteArray.empty t238 1)).bind fun t246 => (if 0 ≤ (wrap64 ((t238.length : Int) - 1)) then (if (wrap64 ((t238.length : Int) - 1)) < (t238.length : Int) then ((cambistref19_Words.f k (rdOf ByteArray.empty t238 (wrap64 ((t238.length : Int) - 1)))).bind fun t250 => (if (t242.length : Int) = 4 then (if (t246.length : Int) = 2 then (cambistref19_Parse.j0 k a0 t238 t242 t246 t250 ((t250.length : Int) != 2)) else (cambistref19_Parse.j0 k a0 t238 t242 t246 t250 true)) else (cambistref19_Parse.j0 k a0 t238 t242 t246 t250 true))) else (none)) else (none))) else (none))) else (none))) = some (r1, r2, r3, r4, r5, r6, r7) := H
 have A2 := a_ A20
 clear A20
 by_cases c3 : (t238.length : Int) < 3
 ·rw [if_pos c3] at H
  have c3b0 : decide ((t238.length : Int) < 3) = true := decide_eq_true c3
  have c3b1 : decide (t238.length < 3) = true := decide_eq_true (by omega)
  clear c3
  simp only [Option.some.injEq, Prod.mk.injEq] at H
  obtain ⟨rfl, rfl, rfl, rfl, rfl, rfl, rfl⟩ := H
  go_enter Tryz.func9, Tryz.ntmps9
  go_wp2_with (first | ((with_reducible refine gate_dst (N := 2) rfl ?_); (try (refine gate_guard (by rfl) ?_; dsimp only)); refine box_event ?hg (N := 2) ?hd (cs := #[.string (⟨#[]⟩ : ByteArray), .string (⟨#[]⟩ : ByteArray), .int .u64 0, .int .i64 0, .slice none 0 0, .int .i64 0]) (t := 25) ?hr ?_; (case hd => rfl); (case hg => rfl); (case hr => first | (go_simp; done) | (go_simp; rfl)); intro gb237 hg w4 hbox hb; have n0_ := a_ (below_step z45_ hb); have n1_ := a_ (hbox); have n2_ := a_ ((z32_ : w.heap.size ≤ gb237)); have n3_ := a_ ((z32_ : w.heap.size ≤ gb237)); clear HB; have HB := n0_; have BK237 := n1_; have GW237 := n2_; have GE237 := n3_; clear n0_ n1_ n2_ n3_; clear hb hbox hg) | ((with_reducible refine gate_callee (f := 28) rfl ?_); refine goesL_ (some 14) rfl rfl Tryz.func28 z85_ rfl #[.string a0] rfl z31_ ?_; (with_reducible refine (cambistref19_lines.calls k a0 t238 _ ?side1 A2.out).mono ?_); (case side1 => exact Glob.below HG.out z40_); rintro e w5 ⟨v239, rfl, ho0, hb⟩; refine ⟨_, rfl, ?_⟩; have n0_ := a_ (Kd.R_lower ho0 (below_size z40_)); have n1_ := a_ (blk_below (g := gb237) (o := .cells #[.string (⟨#[]⟩ : ByteArray), .string (⟨#[]⟩ : ByteArray), .int .u64 0, .int .i64 0, .slice none 0 0, .int .i64 0] 25 (0, 0)) z69_ hb); have n2_ := a_ (below_step z40_ hb); clear BK237; clear HB; have HO240 := n0_; have BK237 := n1_; have HB := n2_; clear n0_ n1_ n2_; (try clear hb); (try clear hb2); (try clear hk); (try clear hi); (try clear ho0); obtain ⟨Ao6, co6, eo6⟩ := Kd.R_slice HO240.out; subst eo6; have hcz7_0 : w5.cell? ⟨gb237, 0, none⟩ = some (.string (⟨#[]⟩ : ByteArray)) := (blk_cell BK237.out 0).trans rfl; have hcz7_1 : w5.cell? ⟨gb237, 1, none⟩ = some (.string (⟨#[]⟩ : ByteArray)) := (blk_cell BK237.out 1).trans rfl; have hcz7_2 : w5.cell? ⟨gb237, 2, none⟩ = some (.int .u64 0) := (blk_cell BK237.out 2).trans rfl; have hcz7_3 : w5.cell? ⟨gb237, 3, none⟩ = some (.int .i64 0) := (blk_cell BK237.out 3).trans rfl; have hcz7_4 : w5.cell? ⟨gb237, 4, none⟩ = some (.slice none 0 0) := (blk_cell BK237.out 4).trans rfl; have hcz7_5 : w5.cell? ⟨gb237, 5, none⟩ = some (.int .i64 0) := (blk_cell BK237.out 5).trans rfl; have hfz7_0 := blk_frozen BK237.out 0; have hfz7_1 := blk_frozen BK237.out 1; have hfz7_2 := blk_frozen BK237.out 2; have hfz7_3 := blk_frozen BK237.out 3; have hfz7_4 := blk_frozen BK237.out 4; have hfz7_5 := blk_frozen BK237.out 5))
  refine bodyPost_ret (results_ct rfl _ _ gb237 25 #[.string (⟨#[]⟩ : ByteArray), .string (⟨#[]⟩ : ByteArray), .int .u64 0, .int .i64 0, .slice none 0 0, .int .i64 0] (0, 0) _ rfl (by (with_reducible repeat (first | refine kN_ ?_ _ | refine kD_ ?_ | refine kA_ ?_ _)); refine blk_put (cs := #[.string (⟨#[]⟩ : ByteArray), .string (⟨#[]⟩ : ByteArray), .int .u64 0, .int .i64 0, .slice none 0 0, .int .i64 0]) ?_ 5 _ rfl; (with_reducible repeat (first | refine kN_ ?_ _ | refine kD_ ?_ | refine kA_ ?_ _)); refine blk_put (cs := #[.string (⟨#[]⟩ : ByteArray), .string (⟨#[]⟩ : ByteArray), .int .u64 0, .int .i64 0, .slice none 0 0, .int .i64 0]) ?_ 4 _ rfl; (with_reducible repeat (first | refine kN_ ?_ _ | refine kD_ ?_ | refine kA_ ?_ _)); refine blk_put (cs := #[.string (⟨#[]⟩ : ByteArray), .string (⟨#[]⟩ : ByteArray), .int .u64 0, .int .i64 0, .slice none 0 0, .int .i64 0]) ?_ 3 _ rfl; (with_reducible repeat (first | refine kN_ ?_ _ | refine kD_ ?_ | refine kA_ ?_ _)); refine blk_put (cs := #[.string (⟨#[]⟩ : ByteArray), .string (⟨#[]⟩ : ByteArray), .int .u64 0, .int .i64 0, .slice none 0 0, .int .i64 0]) ?_ 2 _ rfl; (with_reducible repeat (first | refine kN_ ?_ _ | refine kD_ ?_ | refine kA_ ?_ _)); refine blk_put (cs := #[.string (⟨#[]⟩ : ByteArray), .string (⟨#[]⟩ : ByteArray), .int .u64 0, .int .i64 0, .slice none 0 0, .int .i64 0]) ?_ 1 _ rfl; (with_reducible repeat (first | refine kN_ ?_ _ | refine kD_ ?_ | refine kA_ ?_ _)); refine blk_put (cs := #[.string (⟨#[]⟩ : ByteArray), .string (⟨#[]⟩ : ByteArray), .int .u64 0, .int .i64 0, .slice none 0 0, .int .i64 0]) ?_ 0 _ rfl; (with_reducible repeat (first | refine kN_ ?_ _ | refine kD_ ?_ | refine kA_ ?_ _)); exact BK237.out) Tryz.underlying25 rfl z85_) rfl ?_
  exact ⟨_, z76_, z30_, z40_⟩
 ·rw [if_neg c3] at H
  have c3b0 : decide ((t238.length : Int) < 3) = false := decide_eq_false c3
  have c3b1 : decide (t238.length < 3) = false := decide_eq_false (by omega)
  clear c3
  by_cases c8 : 0 < (t238.length : Int)
  ·rw [if_pos c8] at H
   have c8b0 : decide (0 < (t238.length : Int)) = true := decide_eq_true c8
   have c8b1 : decide (0 < t238.length) = true := decide_eq_true (by omega)
   clear c8
   replace H := Option.bind_eq_some_iff.mp H
   obtain ⟨t242, A90, H⟩ := H
   replace H : (if 1 < (t238.length : Int) then ((cambistref19_Words.f k (rdOf ByteArray.empty t238 1)).bind fun t246 => (if 0 ≤ (wrap64 ((t238.length : Int) - 1)) then (if (wrap64 ((t238.length : Int) - 1)) < (t238.length : Int) then ((cambistref19_Words.f k (rdOf ByteArray.empty t238 (wrap64 ((t238.length : Int) - 1)))).bind fun t250 => (if (t242.length : Int) = 4 then (if (t246.length : Int) = 2 then (cambistref19_Parse.j0 k a0 t238 t242 t246 t250 ((t250.length : Int) != 2)) else (cambistref19_Parse.j0 k a0 t238 t242 t246 t250 true)) else (cambistref19_Parse.j0 k a0 t238 t242 t246 t250 true))) else (none)) else (none))) else (none)) = some (r1, r2, r3, r4, r5, r6, r7) := H
   have A9 := a_ A90
   clear A90
   by_cases c10 : 1 < (t238.length : Int)
   ·rw [if_pos c10] at H
    have c10b0 : decide (1 < (t238.length : Int)) = true := decide_eq_true c10
    have c10b1 : decide (1 < t238.length) = true := decide_eq_true (by omega)
    clear c10
    replace H := Option.bind_eq_some_iff.mp H
    obtain ⟨t246, A110, H⟩ := H
    replace H : (if 0 ≤ (wrap64 ((t238.length : Int) - 1)) then (if (wrap64 ((t238.length : Int) - 1)) < (t238.length : Int) then ((cambistref19_Words.f k (rdOf ByteArray.empty t238 (wrap64 ((t238.length : Int) - 1)))).bind fun t250 => (if (t242.length : Int) = 4 then (if (t246.length : Int) = 2 then (cambistref19_Parse.j0 k a0 t238 t242 t246 t250 ((t250.length : Int) != 2)) else (cambistref19_Parse.j0 k a0 t238 t242 t246 t250 true)) else (cambistref19_Parse.j0 k a0 t238 t242 t246 t250 true))) else (none)) else (none)) = some (r1, r2, r3, r4, r5, r6, r7) := H
    have A11 := a_ A110
    clear A110
    obtain ⟨ji12, hji12⟩ : ∃ j_ : Int, (wrap64 ((t238.length : Int) - 1)) = j_ := ⟨_, rfl⟩
    replace H : (if 0 ≤ (ji12) then (if (ji12) < (t238.length : Int) then ((cambistref19_Words.f k (rdOf ByteArray.empty t238 (ji12))).bind fun t250 => (if (t242.length : Int) = 4 then (if (t246.length : Int) = 2 then (cambistref19_Parse.j0 k a0 t238 t242 t246 t250 ((t250.length : Int) != 2)) else (cambistref19_Parse.j0 k a0 t238 t242 t246 t250 true)) else (cambistref19_Parse.j0 k a0 t238 t242 t246 t250 true))) else (none)) else (none)) = some (r1, r2, r3, r4, r5, r6, r7) := by first | (rw [hji12] at H; exact H) | (simp only [hji12] at H ⊢; exact H)
    (try rw [hji12] at A2)
    (try rw [hji12] at A9)
    (try rw [hji12] at A11)
    have hji12w : (IntKind.i64.wrap ((t238.length : Int) - 1)) = ji12 := (i64_w _).trans hji12
    by_cases c13 : 0 ≤ (ji12)
    ·rw [if_pos c13] at H
     have c13b0 : decide (0 ≤ (ji12)) = true := decide_eq_true c13
     clear c13
     by_cases c14 : (ji12) < (t238.length : Int)
     ·rw [if_pos c14] at H
      have c14b0 : decide ((ji12) < (t238.length : Int)) = true := decide_eq_true c14
      clear c14
      replace H := Option.bind_eq_some_iff.mp H
      obtain ⟨t250, A150, H⟩ := H
      replace H : (if (t242.length : Int) = 4 then (if (t246.length : Int) = 2 then (cambistref19_Parse.j0 k a0 t238 t242 t246 t250 ((t250.length : Int) != 2)) else (cambistref19_Parse.j0 k a0 t238 t242 t246 t250 true)) else (cambistref19_Parse.j0 k a0 t238 t242 t246 t250 true)) = some (r1, r2, r3, r4, r5, r6, r7) := H
      have A15 := a_ A150
      clear A150
      have HC16 := a_ H
      clear H
      go_enter Tryz.func9, Tryz.ntmps9
      go_upto_region 7 with (first | ((with_reducible refine gate_dst (N := 2) rfl ?_); (try (refine gate_guard (by rfl) ?_; dsimp only)); refine box_event ?hg (N := 2) ?hd (cs := #[.string (⟨#[]⟩ : ByteArray), .string (⟨#[]⟩ : ByteArray), .int .u64 0, .int .i64 0, .slice none 0 0, .int .i64 0]) (t := 25) ?hr ?_; (case hd => rfl); (case hg => rfl); (case hr => first | (go_simp; done) | (go_simp; rfl)); intro gb237 hg w17 hbox hb; have n0_ := a_ (below_step z45_ hb); have n1_ := a_ (hbox); have n2_ := a_ ((z32_ : w.heap.size ≤ gb237)); have n3_ := a_ ((z32_ : w.heap.size ≤ gb237)); clear HB; have HB := n0_; have BK237 := n1_; have GW237 := n2_; have GE237 := n3_; clear n0_ n1_ n2_ n3_; clear hb hbox hg) | ((with_reducible refine gate_callee (f := 28) rfl ?_); refine goesL_ (some 14) rfl rfl Tryz.func28 z85_ rfl #[.string a0] rfl z31_ ?_; (with_reducible refine (cambistref19_lines.calls k a0 t238 _ ?side1 A2.out).mono ?_); (case side1 => exact Glob.below HG.out z40_); rintro e w18 ⟨v239, rfl, ho0, hb⟩; refine ⟨_, rfl, ?_⟩; have n0_ := a_ (Kd.R_lower ho0 (below_size z40_)); have n1_ := a_ (blk_below (g := gb237) (o := .cells #[.string (⟨#[]⟩ : ByteArray), .string (⟨#[]⟩ : ByteArray), .int .u64 0, .int .i64 0, .slice none 0 0, .int .i64 0] 25 (0, 0)) z69_ hb); have n2_ := a_ (below_step z40_ hb); clear BK237; clear HB; have HO240 := n0_; have BK237 := n1_; have HB := n2_; clear n0_ n1_ n2_; (try clear hb); (try clear hb2); (try clear hk); (try clear hi); (try clear ho0); obtain ⟨Ao19, co19, eo19⟩ := Kd.R_slice HO240.out; subst eo19; have p241 : 0 ≤ (0 : Int) := (by omega); have q241 : 0 < (t238.length : Int) := of_decide_eq_true z79_; obtain ⟨ad241, e241, hx241_0⟩ := Kd.at_string (Kd.R_reads' HO240.out).2.2 0 p241 q241; cases e241; have qi241 : (0 < t238.length) = True := eq_true (by omega); (try rw [show ((0 : Int)).toNat = 0 from rfl] at hx241_0); (try rw [Addr.add_zero'] at hx241_0); replace p241 := eq_true p241; replace q241 := eq_true q241) | ((with_reducible refine gate_callee (f := 29) rfl ?_); refine goesL_ (some 22) rfl rfl Tryz.func29 z85_ rfl #[.string (rdOf ByteArray.empty t238 0)] rfl z31_ ?_; (with_reducible refine (cambistref19_Words.calls k (rdOf ByteArray.empty t238 0) t242 _ ?side1 A9.out).mono ?_); (case side1 => exact Glob.below HG.out z40_); rintro e w20 ⟨v243, rfl, ho0, hb⟩; refine ⟨_, rfl, ?_⟩; have n0_ := a_ (Kd.R_elder' z48_ (Kd.R_base ho0) hb); have n1_ := a_ (Kd.R_lower (Kd.R_new' ho0 (Kd.R_lt z48_)) (below_size z40_)); have n2_ := a_ (blk_below (g := gb237) (o := .cells #[.string (⟨#[]⟩ : ByteArray), .string (⟨#[]⟩ : ByteArray), .int .u64 0, .int .i64 0, .slice none 0 0, .int .i64 0] 25 (0, 0)) z69_ hb); have n3_ := a_ (below_step z40_ hb); clear HO240; clear BK237; clear HB; have HO240 := n0_; have HO244 := n1_; have BK237 := n2_; have HB := n3_; clear n0_ n1_ n2_ n3_; (try clear hb); (try clear hb2); (try clear hk); (try clear hi); (try clear ho0); have p245 : 0 ≤ (1 : Int) := (by omega); have q245 : 1 < (t238.length : Int) := of_decide_eq_true z79_; obtain ⟨ad245, e245, hx245_0⟩ := Kd.at_string (Kd.R_reads' HO240.out).2.2 1 p245 q245; obtain rfl : ad241 = ad245 := (by injection e245); (try simp only [show (1 : Int).toNat = 1 from rfl, Nat.reduceMul, Nat.reduceEqDiff, Go.Addr.add, ↓reduceIte] at hx245_0); have qi245 : (1 < t238.length) = True := eq_true (by omega); (try rw [show ((1 : Int)).toNat = 1 from rfl] at hx245_0); replace p245 := eq_true p245; replace q245 := eq_true q245) | ((with_reducible refine gate_callee (f := 29) rfl ?_); refine goesL_ (some 26) rfl rfl Tryz.func29 z85_ rfl #[.string (rdOf ByteArray.empty t238 1)] rfl z31_ ?_; (with_reducible refine (cambistref19_Words.calls k (rdOf ByteArray.empty t238 1) t246 _ ?side1 A11.out).mono ?_); (case side1 => exact Glob.below HG.out z40_); rintro e w21 ⟨v247, rfl, ho0, hb⟩; refine ⟨_, rfl, ?_⟩; have n0_ := a_ (Kd.R_elder' z48_ (Kd.R_base ho0) hb); have n1_ := a_ (Kd.R_elder' z49_ (Kd.R_base ho0) hb); have n2_ := a_ (Kd.R_lower (Kd.R_new' (Kd.R_new' ho0 (Kd.R_lt z48_)) (Kd.R_lt z49_)) (below_size z40_)); have n3_ := a_ (blk_below (g := gb237) (o := .cells #[.string (⟨#[]⟩ : ByteArray), .string (⟨#[]⟩ : ByteArray), .int .u64 0, .int .i64 0, .slice none 0 0, .int .i64 0] 25 (0, 0)) z69_ hb); have n4_ := a_ (below_step z40_ hb); clear HO240; clear HO244; clear BK237; clear HB; have HO240 := n0_; have HO244 := n1_; have HO248 := n2_; have BK237 := n3_; have HB := n4_; clear n0_ n1_ n2_ n3_ n4_; (try clear hb); (try clear hb2); (try clear hk); (try clear hi); (try clear ho0); have p249 : 0 ≤ ((ji12) : Int) := of_decide_eq_true z79_; have q249 : (ji12) < (t238.length : Int) := of_decide_eq_true z79_; obtain ⟨ad249, e249, hx249_0⟩ := Kd.at_string (Kd.R_reads' HO240.out).2.2 (ji12) p249 q249; obtain rfl : ad241 = ad249 := (by injection e249); replace p249 := eq_true p249; replace q249 := eq_true q249) | ((with_reducible refine gate_callee (f := 29) rfl ?_); refine goesL_ (some 33) rfl rfl Tryz.func29 z85_ rfl #[.string (rdOf ByteArray.empty t238 (ji12))] rfl (by (try simp only [List.map_toArray, List.map_cons, List.map_nil]); first | done | (simp only [hji12]; rfl) | rfl | (simp only [List.length_drop, List.length_take]; rfl)) ?_; (with_reducible refine (cambistref19_Words.calls k (rdOf ByteArray.empty t238 (ji12)) t250 _ ?side1 A15.out).mono ?_); (case side1 => exact Glob.below HG.out z40_); rintro e w22 ⟨v251, rfl, ho0, hb⟩; refine ⟨_, rfl, ?_⟩; have n0_ := a_ (Kd.R_elder' z48_ (Kd.R_base ho0) hb); have n1_ := a_ (Kd.R_elder' z49_ (Kd.R_base ho0) hb); have n2_ := a_ (Kd.R_elder' (by (with_reducible repeat (first | apply Kd.R_alloc | apply Kd.R_drewN | apply Kd.R_drew)); exact HO248.out) (Kd.R_base ho0) hb); have n3_ := a_ (Kd.R_lower (Kd.R_new' (Kd.R_new' (Kd.R_new' ho0 (Kd.R_lt z48_)) (Kd.R_lt z49_)) (Kd.R_lt (by (with_reducible repeat (first | apply Kd.R_alloc | apply Kd.R_drewN | apply Kd.R_drew)); exact HO248.out))) (below_size z40_)); have n4_ := a_ (blk_below (g := gb237) (o := .cells #[.string (⟨#[]⟩ : ByteArray), .string (⟨#[]⟩ : ByteArray), .int .u64 0, .int .i64 0, .slice none 0 0, .int .i64 0] 25 (0, 0)) z69_ hb); have n5_ := a_ (below_step z40_ hb); clear HO240; clear HO244; clear HO248; clear BK237; clear HB; have HO240 := n0_; have HO244 := n1_; have HO248 := n2_; have HO252 := n3_; have BK237 := n4_; have HB := n5_; clear n0_ n1_ n2_ n3_ n4_ n5_; (try clear hb); (try clear hb2); (try clear hk); (try clear hi); (try clear ho0)))
      (try simp only [Act.put, sT_, s0_, sS_])
      go_cut [46] (fun v46 wc => ∃ (kq : Nat) (x46_15 : Bool), v46 = .bool x46_15 ∧ Aside0 (cambistref19_Parse.j0 kq a0 t238 t242 t246 t250 x46_15 = some (r1, r2, r3, r4, r5, r6, r7)) ∧ Aside0 (kq ≤ k) ∧ Aside0 (Kd.R Kd.string 9 wc w.heap.size (fun k_ => some k_ ≠ (v243 : Value).ownBlock ∧ some k_ ≠ (v247 : Value).ownBlock ∧ some k_ ≠ (v251 : Value).ownBlock) (.slice (some ad241) t238.length co19) t238) ∧ Aside0 (Kd.R Kd.string 9 wc w.heap.size (fun k_ => some k_ ≠ ((.slice (some ad241) t238.length co19) : Value).ownBlock ∧ some k_ ≠ (v247 : Value).ownBlock ∧ some k_ ≠ (v251 : Value).ownBlock) v243 t242) ∧ Aside0 (Kd.R Kd.string 9 wc w.heap.size (fun k_ => some k_ ≠ ((.slice (some ad241) t238.length co19) : Value).ownBlock ∧ some k_ ≠ (v243 : Value).ownBlock ∧ some k_ ≠ (v251 : Value).ownBlock) v247 t246) ∧ Aside0 (Kd.R Kd.string 9 wc w.heap.size (fun k_ => some k_ ≠ ((.slice (some ad241) t238.length co19) : Value).ownBlock ∧ some k_ ≠ (v243 : Value).ownBlock ∧ some k_ ≠ (v247 : Value).ownBlock) v251 t250) ∧ Aside0 (wc.heap[gb237]? = some (.cells #[.string (⟨#[]⟩ : ByteArray), .string (⟨#[]⟩ : ByteArray), .int .u64 0, .int .i64 0, (.slice none 0 0), .int .i64 0] 25 (0, 0))) ∧ Aside0 (Below w.heap.size w wc))
      case first =>
       have H := HC16.out
       clear HC16
       by_cases c23 : (t242.length : Int) = 4
       ·rw [if_pos c23] at H
        have c23b0 : ((t242.length : Int) == 4) = true := beq_iff_eq.mpr c23
        have c23b1 : ((t242.length : Int) != 4) = false := bne_eq_false_iff_eq.mpr c23
        clear c23
        (first | rw [c23b0] | (simp only [i64_w, i32_w]; rw [c23b0]) | skip)
        by_cases c24 : (t246.length : Int) = 2
        ·rw [if_pos c24] at H
         have c24b0 : ((t246.length : Int) == 2) = true := beq_iff_eq.mpr c24
         have c24b1 : ((t246.length : Int) != 2) = false := bne_eq_false_iff_eq.mpr c24
         clear c24
         have H' := a_ H
         clear H
         obtain ⟨Ao25, co25, eo25⟩ := Kd.R_slice HO244.out
         subst eo25
         obtain ⟨Ao26, co26, eo26⟩ := Kd.R_slice HO248.out
         subst eo26
         obtain ⟨Ao27, co27, eo27⟩ := Kd.R_slice HO252.out
         subst eo27
         go_wp2
         go_meet
         case rel => exact ⟨_, (((t250.length : Int) != 2)), z80_, H', ⟨z83_⟩, ⟨z26_⟩, ⟨z27_⟩, ⟨z28_⟩, ⟨z29_⟩, ⟨z69_⟩, ⟨z40_⟩⟩
        ·rw [if_neg c24] at H
         have c24b0 : ((t246.length : Int) == 2) = false := beq_eq_false_iff_ne.mpr c24
         have c24b1 : ((t246.length : Int) != 2) = true := bne_iff_ne.mpr c24
         have H' := a_ H
         clear H
         obtain ⟨Ao28, co28, eo28⟩ := Kd.R_slice HO244.out
         subst eo28
         obtain ⟨Ao29, co29, eo29⟩ := Kd.R_slice HO248.out
         subst eo29
         go_wp2
         go_meet
         case rel => exact ⟨_, (true), z80_, H', ⟨z83_⟩, ⟨z26_⟩, ⟨z27_⟩, ⟨z28_⟩, ⟨z29_⟩, ⟨z69_⟩, ⟨z40_⟩⟩
       ·rw [if_neg c23] at H
        have c23b0 : ((t242.length : Int) == 4) = false := beq_eq_false_iff_ne.mpr c23
        have c23b1 : ((t242.length : Int) != 4) = true := bne_iff_ne.mpr c23
        (first | rw [c23b0] | (simp only [i64_w, i32_w]; rw [c23b0]) | skip)
        have H' := a_ H
        clear H
        obtain ⟨Ao30, co30, eo30⟩ := Kd.R_slice HO244.out
        subst eo30
        go_wp2
        go_meet
        case rel => exact ⟨_, (true), z80_, H', ⟨z83_⟩, ⟨z26_⟩, ⟨z27_⟩, ⟨z28_⟩, ⟨z29_⟩, ⟨z69_⟩, ⟨z40_⟩⟩
      case rest =>
       clear HC16
       try clear c1
       try clear c2
       try clear p2
       try clear q2
       try clear hx2
       try clear qi2
       try clear c3
       try clear c3b0
       try clear c3b1
       try clear p6
       try clear c8
       try clear c8b0
       try clear c8b1
       try clear c9
       try clear c10
       try clear c10b0
       try clear c10b1
       try clear c13
       try clear c13b0
       try clear c14
       try clear c14b0
       try clear c23
       try clear c23b0
       try clear c23b1
       try clear c24
       try clear c24b0
       try clear c24b1
       try clear p24
       try clear q24
       try clear hx24
       try clear qi24
       try clear c28
       try clear c29
       try clear hcz7_0
       try clear hcz7_1
       try clear hcz7_2
       try clear hcz7_3
       try clear hcz7_4
       try clear hcz7_5
       try clear hfz7_0
       try clear hfz7_1
       try clear hfz7_2
       try clear hfz7_3
       try clear hfz7_4
       try clear hfz7_5
       try clear hx241_0
       try clear hx245_0
       try clear hx249_0
       try clear p241
       try clear p245
       try clear p249
       try clear q241
       try clear q245
       try clear q249
       obtain ⟨kq, x46_15, rfl, HA, HJ15, HO_4, HO_5, HO_6, HO_7, BK237, HB⟩ := hcut
       cases kq with
       | zero => exact absurd HA.out (by simp [cambistref19_Parse.j0])
       | succ kj15 =>
        have H := HA.out
        clear HA
        simp only [cambistref19_Parse.j0] at H
        by_cases c31 : x46_15 = true
        ·subst c31
         have H1 : (some ((⟨#[]⟩ : ByteArray), (⟨#[]⟩ : ByteArray), 0, 0, ([] : List (S37)), 0, 190)) = some (r1, r2, r3, r4, r5, r6, r7) := by rw [if_pos rfl] at H; exact H
         clear H
         have H := H1
         clear H1
         simp only [Option.some.injEq, Prod.mk.injEq] at H
         obtain ⟨rfl, rfl, rfl, rfl, rfl, rfl, rfl⟩ := H
         have hcz32_0 : wc.cell? ⟨gb237, 0, none⟩ = some (.string (⟨#[]⟩ : ByteArray)) := (blk_cell BK237.out 0).trans rfl
         have hcz32_1 : wc.cell? ⟨gb237, 1, none⟩ = some (.string (⟨#[]⟩ : ByteArray)) := (blk_cell BK237.out 1).trans rfl
         have hcz32_2 : wc.cell? ⟨gb237, 2, none⟩ = some (.int .u64 0) := (blk_cell BK237.out 2).trans rfl
         have hcz32_3 : wc.cell? ⟨gb237, 3, none⟩ = some (.int .i64 0) := (blk_cell BK237.out 3).trans rfl
         have hcz32_4 : wc.cell? ⟨gb237, 4, none⟩ = some (.slice none 0 0) := (blk_cell BK237.out 4).trans rfl
         have hcz32_5 : wc.cell? ⟨gb237, 5, none⟩ = some (.int .i64 0) := (blk_cell BK237.out 5).trans rfl
         have hfz32_0 := blk_frozen BK237.out 0
         have hfz32_1 := blk_frozen BK237.out 1
         have hfz32_2 := blk_frozen BK237.out 2
         have hfz32_3 := blk_frozen BK237.out 3
         have hfz32_4 := blk_frozen BK237.out 4
         have hfz32_5 := blk_frozen BK237.out 5
         go_wp2
         refine bodyPost_ret (results_ct rfl _ _ gb237 25 #[.string (⟨#[]⟩ : ByteArray), .string (⟨#[]⟩ : ByteArray), .int .u64 0, .int .i64 0, .slice none 0 0, .int .i64 0] (0, 0) _ rfl (by (with_reducible repeat (first | refine kN_ ?_ _ | refine kD_ ?_ | refine kA_ ?_ _)); refine blk_put (cs := #[.string (⟨#[]⟩ : ByteArray), .string (⟨#[]⟩ : ByteArray), .int .u64 0, .int .i64 0, .slice none 0 0, .int .i64 0]) ?_ 5 _ rfl; (with_reducible repeat (first | refine kN_ ?_ _ | refine kD_ ?_ | refine kA_ ?_ _)); refine blk_put (cs := #[.string (⟨#[]⟩ : ByteArray), .string (⟨#[]⟩ : ByteArray), .int .u64 0, .int .i64 0, .slice none 0 0, .int .i64 0]) ?_ 4 _ rfl; (with_reducible repeat (first | refine kN_ ?_ _ | refine kD_ ?_ | refine kA_ ?_ _)); refine blk_put (cs := #[.string (⟨#[]⟩ : ByteArray), .string (⟨#[]⟩ : ByteArray), .int .u64 0, .int .i64 0, .slice none 0 0, .int .i64 0]) ?_ 3 _ rfl; (with_reducible repeat (first | refine kN_ ?_ _ | refine kD_ ?_ | refine kA_ ?_ _)); refine blk_put (cs := #[.string (⟨#[]⟩ : ByteArray), .string (⟨#[]⟩ : ByteArray), .int .u64 0, .int .i64 0, .slice none 0 0, .int .i64 0]) ?_ 2 _ rfl; (with_reducible repeat (first | refine kN_ ?_ _ | refine kD_ ?_ | refine kA_ ?_ _)); refine blk_put (cs := #[.string (⟨#[]⟩ : ByteArray), .string (⟨#[]⟩ : ByteArray), .int .u64 0, .int .i64 0, .slice none 0 0, .int .i64 0]) ?_ 1 _ rfl; (with_reducible repeat (first | refine kN_ ?_ _ | refine kD_ ?_ | refine kA_ ?_ _)); refine blk_put (cs := #[.string (⟨#[]⟩ : ByteArray), .string (⟨#[]⟩ : ByteArray), .int .u64 0, .int .i64 0, .slice none 0 0, .int .i64 0]) ?_ 0 _ rfl; (with_reducible repeat (first | refine kN_ ?_ _ | refine kD_ ?_ | refine kA_ ?_ _)); exact BK237.out) Tryz.underlying25 rfl z85_) rfl ?_
         exact ⟨_, z15_, z30_, z40_⟩
        ·replace c31 := Bool.eq_false_iff.mpr c31
         subst c31
         have H1 : (if 1 < (t242.length : Int) then (if 2 < (t242.length : Int) then (if 3 < (t242.length : Int) then ((cambistref19_Unsigned.f kj15 (rdOf ByteArray.empty t242 3)).bind fun t256 => (if 1 < (t246.length : Int) then ((cambistref19_amount.f kj15 (rdOf ByteArray.empty t246 1)).bind fun t258 => (if 1 < (t250.length : Int) then ((cambistref19_amount.f kj15 (rdOf ByteArray.empty t250 1)).bind fun t260 => (cambistref19_Parse.l0 kj15 a0 t238 2 (rdOf ByteArray.empty t242 1) (rdOf ByteArray.empty t242 2) t256 t258 ([] : List (S37)) t260)) else (none))) else (none))) else (none)) else (none)) else (none)) = some (r1, r2, r3, r4, r5, r6, r7) := by rw [if_neg (show ¬ (false = true) by decide)] at H; exact H
         clear H
         have H := H1
         clear H1
         by_cases c33 : 1 < (t242.length : Int)
         ·rw [if_pos c33] at H
          have c33b0 : decide (1 < (t242.length : Int)) = true := decide_eq_true c33
          have c33b1 : decide (1 < t242.length) = true := decide_eq_true (by omega)
          clear c33
          by_cases c34 : 2 < (t242.length : Int)
          ·rw [if_pos c34] at H
           have c34b0 : decide (2 < (t242.length : Int)) = true := decide_eq_true c34
           have c34b1 : decide (2 < t242.length) = true := decide_eq_true (by omega)
           clear c34
           by_cases c35 : 3 < (t242.length : Int)
           ·rw [if_pos c35] at H
            have c35b0 : decide (3 < (t242.length : Int)) = true := decide_eq_true c35
            have c35b1 : decide (3 < t242.length) = true := decide_eq_true (by omega)
            clear c35
            replace H := Option.bind_eq_some_iff.mp H
            obtain ⟨t256, A360, H⟩ := H
            replace H : (if 1 < (t246.length : Int) then ((cambistref19_amount.f kj15 (rdOf ByteArray.empty t246 1)).bind fun t258 => (if 1 < (t250.length : Int) then ((cambistref19_amount.f kj15 (rdOf ByteArray.empty t250 1)).bind fun t260 => (cambistref19_Parse.l0 kj15 a0 t238 2 (rdOf ByteArray.empty t242 1) (rdOf ByteArray.empty t242 2) t256 t258 ([] : List (S37)) t260)) else (none))) else (none)) = some (r1, r2, r3, r4, r5, r6, r7) := H
            have A36 := a_ A360
            clear A360
            by_cases c37 : 1 < (t246.length : Int)
            ·rw [if_pos c37] at H
             have c37b0 : decide (1 < (t246.length : Int)) = true := decide_eq_true c37
             have c37b1 : decide (1 < t246.length) = true := decide_eq_true (by omega)
             clear c37
             replace H := Option.bind_eq_some_iff.mp H
             obtain ⟨t258, A380, H⟩ := H
             replace H : (if 1 < (t250.length : Int) then ((cambistref19_amount.f kj15 (rdOf ByteArray.empty t250 1)).bind fun t260 => (cambistref19_Parse.l0 kj15 a0 t238 2 (rdOf ByteArray.empty t242 1) (rdOf ByteArray.empty t242 2) t256 t258 ([] : List (S37)) t260)) else (none)) = some (r1, r2, r3, r4, r5, r6, r7) := H
             have A38 := a_ A380
             clear A380
             by_cases c39 : 1 < (t250.length : Int)
             ·rw [if_pos c39] at H
              have c39b0 : decide (1 < (t250.length : Int)) = true := decide_eq_true c39
              have c39b1 : decide (1 < t250.length) = true := decide_eq_true (by omega)
              clear c39
              replace H := Option.bind_eq_some_iff.mp H
              obtain ⟨t260, A400, H⟩ := H
              replace H : (cambistref19_Parse.l0 kj15 a0 t238 2 (rdOf ByteArray.empty t242 1) (rdOf ByteArray.empty t242 2) t256 t258 ([] : List (S37)) t260) = some (r1, r2, r3, r4, r5, r6, r7) := H
              have A40 := a_ A400
              clear A400
              have H' := a_ H
              clear H
              try go_wp2
              have n0_ := a_ (Kd.R_drew HO_4.out)
              have n1_ := a_ (Kd.R_drew HO_5.out)
              have n2_ := a_ (Kd.R_drew HO_6.out)
              have n3_ := a_ (Kd.R_drew HO_7.out)
              have n4_ := a_ (blk_drew BK237.out)
              have n5_ := a_ (below_drew1 HB.out)
              clear HO_4
              clear HO_5
              clear HO_6
              clear HO_7
              clear BK237
              clear HB
              have HO_4 := n0_
              have HO_5 := n1_
              have HO_6 := n2_
              have HO_7 := n3_
              have BK237 := n4_
              have HB := n5_
              clear n0_ n1_ n2_ n3_ n4_ n5_
              obtain ⟨Ao42, co42, eo42⟩ := Kd.R_slice HO_5.out
              (first | subst eo42 | (injection eo42 with f1_ f2_ f3_; have f4_ := f1_.symm; have f5_ := f3_.symm; clear f1_ f2_ f3_; subst f4_; subst f5_))
              have p253 : 0 ≤ (1 : Int) := (by omega)
              have q253 : 1 < (t242.length : Int) := of_decide_eq_true z79_
              obtain ⟨ad253, e253, hx253_0⟩ := Kd.at_string (Kd.R_reads' HO_5.out).2.2 1 p253 q253
              cases e253
              (try simp only [show (1 : Int).toNat = 1 from rfl, Nat.reduceMul, Nat.reduceEqDiff, Go.Addr.add, ↓reduceIte] at hx253_0)
              have qi253 : (1 < t242.length) = True := eq_true (by omega)
              (try rw [show ((1 : Int)).toNat = 1 from rfl] at hx253_0)
              replace p253 := eq_true p253
              replace q253 := eq_true q253
              have p254 : 0 ≤ (2 : Int) := (by omega)
              have q254 : 2 < (t242.length : Int) := of_decide_eq_true z79_
              obtain ⟨ad254, e254, hx254_0⟩ := Kd.at_string (Kd.R_reads' HO_5.out).2.2 2 p254 q254
              obtain rfl : ad253 = ad254 := (by injection e254)
              (try simp only [show (2 : Int).toNat = 2 from rfl, Nat.reduceMul, Nat.reduceEqDiff, Go.Addr.add, ↓reduceIte] at hx254_0)
              have qi254 : (2 < t242.length) = True := eq_true (by omega)
              (try rw [show ((2 : Int)).toNat = 2 from rfl] at hx254_0)
              replace p254 := eq_true p254
              replace q254 := eq_true q254
              have p255 : 0 ≤ (3 : Int) := (by omega)
              have q255 : 3 < (t242.length : Int) := of_decide_eq_true z79_
              obtain ⟨ad255, e255, hx255_0⟩ := Kd.at_string (Kd.R_reads' HO_5.out).2.2 3 p255 q255
              obtain rfl : ad253 = ad255 := (by injection e255)
              (try simp only [show (3 : Int).toNat = 3 from rfl, Nat.reduceMul, Nat.reduceEqDiff, Go.Addr.add, ↓reduceIte] at hx255_0)
              have qi255 : (3 < t242.length) = True := eq_true (by omega)
              (try rw [show ((3 : Int)).toNat = 3 from rfl] at hx255_0)
              replace p255 := eq_true p255
              replace q255 := eq_true q255
              obtain ⟨Ao43, co43, eo43⟩ := Kd.R_slice HO_6.out
              (first | subst eo43 | (injection eo43 with f1_ f2_ f3_; have f4_ := f1_.symm; have f5_ := f3_.symm; clear f1_ f2_ f3_; subst f4_; subst f5_))
              have p257 : 0 ≤ (1 : Int) := (by omega)
              have q257 : 1 < (t246.length : Int) := of_decide_eq_true z79_
              obtain ⟨ad257, e257, hx257_0⟩ := Kd.at_string (Kd.R_reads' HO_6.out).2.2 1 p257 q257
              cases e257
              (try simp only [show (1 : Int).toNat = 1 from rfl, Nat.reduceMul, Nat.reduceEqDiff, Go.Addr.add, ↓reduceIte] at hx257_0)
              have qi257 : (1 < t246.length) = True := eq_true (by omega)
              (try rw [show ((1 : Int)).toNat = 1 from rfl] at hx257_0)
              replace p257 := eq_true p257
              replace q257 := eq_true q257
              obtain ⟨Ao44, co44, eo44⟩ := Kd.R_slice HO_7.out
              (first | subst eo44 | (injection eo44 with f1_ f2_ f3_; have f4_ := f1_.symm; have f5_ := f3_.symm; clear f1_ f2_ f3_; subst f4_; subst f5_))
              have p259 : 0 ≤ (1 : Int) := (by omega)
              have q259 : 1 < (t250.length : Int) := of_decide_eq_true z79_
              obtain ⟨ad259, e259, hx259_0⟩ := Kd.at_string (Kd.R_reads' HO_7.out).2.2 1 p259 q259
              cases e259
              (try simp only [show (1 : Int).toNat = 1 from rfl, Nat.reduceMul, Nat.reduceEqDiff, Go.Addr.add, ↓reduceIte] at hx259_0)
              have qi259 : (1 < t250.length) = True := eq_true (by omega)
              (try rw [show ((1 : Int)).toNat = 1 from rfl] at hx259_0)
              replace p259 := eq_true p259
              replace q259 := eq_true q259
              refine start_ (n := 21) (S := fun w' => w'.cell? ⟨ad253.block, ad253.off + 1, none⟩ = some (.string (rdOf ByteArray.empty t242 1)) ∧ w'.cell? ⟨ad253.block, ad253.off + 2, none⟩ = some (.string (rdOf ByteArray.empty t242 2)) ∧ w'.cell? ⟨ad253.block, ad253.off + 3, none⟩ = some (.string (rdOf ByteArray.empty t242 3)) ∧ w'.cell? ⟨ad257.block, ad257.off + 1, none⟩ = some (.string (rdOf ByteArray.empty t246 1)) ∧ w'.cell? ⟨ad259.block, ad259.off + 1, none⟩ = some (.string (rdOf ByteArray.empty t250 1))) (ds := []) #[false, false, false, false, false, false, false, false, false, false, false, false, false, false, false, false, false, false, false, false, false] z85_ rfl rfl ⟨hx253_0, hx254_0, hx255_0, hx257_0, hx259_0⟩ (fun hHeld => ?_); refine with_tabW cambistref19_Parse.tab9 cambistref19_Parse.bits9 (fun HT_ HW_ => ?_)
              generalize wc.drew = w41 at HO_4 HO_5 HO_6 HO_7 BK237 HB hx253_0 hx254_0 hx255_0 hx257_0 hx259_0 hHeld ⊢
              refine pure_ (i := 0) (N := some 48) (v := ?_) (a' := ?_) (fl_ 21 1) rfl rfl (any_of HT_.out z85_) (fun _ _ _ h => h) (Or.inl ⟨by rfl, ?_⟩) ?_ ?_
              rotate_left
              ·intro w'
               go_simp
               with_reducible rfl
              rotate_left
              ·simp only [Act.put, sT_, s0_, sS_, i64_w, i32_w]
               rfl
              refine pure_ (i := 1) (N := some 49) (v := ?_) (a' := ?_) (fl_ 21 3) rfl rfl (any_of HT_.out z85_) (fun _ _ _ h => h) (Or.inl ⟨by rfl, ?_⟩) ?_ ?_
              rotate_left
              ·intro w'
               go_simp
               with_reducible rfl
              rotate_left
              ·simp only [Act.put, sT_, s0_, sS_, i64_w, i32_w]
               rfl
              refine pure_ (i := 3) (N := some 51) (v := ?_) (a' := ?_) (fl_ 21 11) rfl rfl (any_of HT_.out z85_) (fun _ _ _ h => h) (Or.inl ⟨by rfl, ?_⟩) ?_ ?_
              rotate_left
              ·intro w'
               go_simp
               with_reducible rfl
              rotate_left
              ·simp only [Act.put, sT_, s0_, sS_, i64_w, i32_w]
               rfl
              refine pure_ (i := 4) (N := some 52) (v := ?_) (a' := ?_) (fl_ 21 27) rfl rfl (any_of HT_.out z85_) (fun _ _ _ h => h) (Or.inl ⟨by rfl, ?_⟩) ?_ ?_
              rotate_left
              ·intro w'
               go_simp
               with_reducible rfl
              rotate_left
              ·simp only [Act.put, sT_, s0_, sS_, i64_w, i32_w]
               rfl
              refine pure_ (i := 6) (N := some 54) (v := ?_) (a' := ?_) (fl_ 21 91) rfl rfl (any_of HT_.out z85_) (fun _ _ _ h => h) (Or.inl ⟨by rfl, ?_⟩) ?_ ?_
              rotate_left
              ·intro w'
               go_simp
               with_reducible rfl
              rotate_left
              ·simp only [Act.put, sT_, s0_, sS_, i64_w, i32_w]
               rfl
              refine pure_ (i := 7) (N := some 55) (v := ?_) (a' := ?_) (fl_ 21 219) rfl rfl (any_of HT_.out z85_) (fun _ _ _ h => h) (Or.inl ⟨by rfl, ?_⟩) ?_ ?_
              rotate_left
              ·intro w'
               go_simp
               with_reducible rfl
              rotate_left
              ·simp only [Act.put, sT_, s0_, sS_, i64_w, i32_w]
               rfl
              refine pure_ (i := 10) (N := some 58) (v := ?_) (a' := ?_) (fl_ 21 1243) rfl rfl (any_of HT_.out z85_) (fun _ _ _ h => h) (Or.inl ⟨by rfl, ?_⟩) ?_ ?_
              rotate_left
              ·intro w'
               go_simp
               with_reducible rfl
              rotate_left
              ·simp only [Act.put, sT_, s0_, sS_, i64_w, i32_w]
               rfl
              refine pure_ (i := 11) (N := some 59) (v := ?_) (a' := ?_) (fl_ 21 3291) rfl rfl (any_of HT_.out z85_) (fun _ _ _ h => h) (Or.inl ⟨by rfl, ?_⟩) ?_ ?_
              rotate_left
              ·intro w'
               go_simp
               with_reducible rfl
              rotate_left
              ·simp only [Act.put, sT_, s0_, sS_, i64_w, i32_w]
               rfl
              refine pure_ (i := 14) (N := some 62) (v := ?_) (a' := ?_) (fl_ 21 19675) rfl rfl (any_of HT_.out z85_) (fun _ _ _ h => h) (Or.inl ⟨by rfl, ?_⟩) ?_ ?_
              rotate_left
              ·intro w'
               go_simp
               with_reducible rfl
              rotate_left
              ·simp only [Act.put, sT_, s0_, sS_, i64_w, i32_w]
               rfl
              refine pure_ (i := 15) (N := some 63) (v := ?_) (a' := ?_) (fl_ 21 52443) rfl rfl (any_of HT_.out z85_) (fun _ _ _ h => h) (Or.inl ⟨by rfl, ?_⟩) ?_ ?_
              rotate_left
              ·intro w'
               go_simp
               with_reducible rfl
              rotate_left
              ·simp only [Act.put, sT_, s0_, sS_, i64_w, i32_w]
               rfl
              refine take_ (i := 2) (N := some 50) (v := ?_) (a' := ?_) (fl_ 21 52447) rfl rfl (take_ofW HT_.out HW_.out z85_) (fun _ _ _ h => h) (Or.inl ⟨by rfl, ?_⟩) hHeld ?_ ?_
              rotate_left
              ·rintro w' ⟨s0, s1, s2, s3, s4⟩
               go_simp
               with_reducible rfl
              rotate_left
              ·simp only [Act.put, sT_, s0_, sS_, i64_w, i32_w]
               rfl
              refine take_ (i := 5) (N := some 53) (v := ?_) (a' := ?_) (fl_ 21 52479) rfl rfl (take_ofW HT_.out HW_.out z85_) (fun _ _ _ h => h) (Or.inl ⟨by rfl, ?_⟩) hHeld ?_ ?_
              rotate_left
              ·rintro w' ⟨s0, s1, s2, s3, s4⟩
               go_simp
               with_reducible rfl
              rotate_left
              ·simp only [Act.put, sT_, s0_, sS_, i64_w, i32_w]
               rfl
              refine take_ (i := 8) (N := some 56) (v := ?_) (a' := ?_) (fl_ 21 52735) rfl rfl (take_ofW HT_.out HW_.out z85_) (fun _ _ _ h => h) (Or.inl ⟨by rfl, ?_⟩) hHeld ?_ ?_
              rotate_left
              ·rintro w' ⟨s0, s1, s2, s3, s4⟩
               go_simp
               with_reducible rfl
              rotate_left
              ·simp only [Act.put, sT_, s0_, sS_, i64_w, i32_w]
               rfl
              refine take_ (i := 12) (N := some 60) (v := ?_) (a' := ?_) (fl_ 21 56831) rfl rfl (take_ofW HT_.out HW_.out z85_) (fun _ _ _ h => h) (Or.inl ⟨by rfl, ?_⟩) hHeld ?_ ?_
              rotate_left
              ·rintro w' ⟨s0, s1, s2, s3, s4⟩
               go_simp
               with_reducible rfl
              rotate_left
              ·simp only [Act.put, sT_, s0_, sS_, i64_w, i32_w]
               rfl
              refine take_ (i := 16) (N := some 64) (v := ?_) (a' := ?_) (fl_ 21 122367) rfl rfl (take_ofW HT_.out HW_.out z85_) (fun _ _ _ h => h) (Or.inl ⟨by rfl, ?_⟩) hHeld ?_ ?_
              rotate_left
              ·rintro w' ⟨s0, s1, s2, s3, s4⟩
               go_simp
               with_reducible rfl
              rotate_left
              ·simp only [Act.put, sT_, s0_, sS_, i64_w, i32_w]
               rfl
              refine join_ (σ := Nat) 1 #[true, true, true, true, true, true, true, true, true, true, true, true, true, true, true, true, true, true, true, true, false] (fun s_ => [(57, .int .u64 t256), (61, .int .i64 t258), (65, .int .i64 t260), (8, .pointer (some ⟨s_, 0, none⟩)), (66, .agg #[.string (rdOf ByteArray.empty t242 1), .string (rdOf ByteArray.empty t242 2), .int .u64 t256, .int .i64 t258, .slice none 0 0, .int .i64 t260])]) (fun s_ w' => (w'.cell? ⟨ad253.block, ad253.off + 1, none⟩ = some (.string (rdOf ByteArray.empty t242 1)) ∧ w'.cell? ⟨ad253.block, ad253.off + 2, none⟩ = some (.string (rdOf ByteArray.empty t242 2)) ∧ w'.cell? ⟨ad253.block, ad253.off + 3, none⟩ = some (.string (rdOf ByteArray.empty t242 3)) ∧ w'.cell? ⟨ad257.block, ad257.off + 1, none⟩ = some (.string (rdOf ByteArray.empty t246 1)) ∧ w'.cell? ⟨ad259.block, ad259.off + 1, none⟩ = some (.string (rdOf ByteArray.empty t250 1))) ∧ (Kd.R Kd.string 9 w' w.heap.size (fun k_ => some k_ ≠ (.slice (some ad253) t242.length co42 : Value).ownBlock ∧ some k_ ≠ (.slice (some ad257) t246.length co43 : Value).ownBlock ∧ some k_ ≠ (.slice (some ad259) t250.length co44 : Value).ownBlock) (.slice (some ad241) t238.length co19) t238) ∧ (Kd.R Kd.string 9 w' w.heap.size (fun k_ => some k_ ≠ (.slice (some ad241) t238.length co19 : Value).ownBlock ∧ some k_ ≠ (.slice (some ad257) t246.length co43 : Value).ownBlock ∧ some k_ ≠ (.slice (some ad259) t250.length co44 : Value).ownBlock) (.slice (some ad253) t242.length co42) t242) ∧ (Kd.R Kd.string 9 w' w.heap.size (fun k_ => some k_ ≠ (.slice (some ad241) t238.length co19 : Value).ownBlock ∧ some k_ ≠ (.slice (some ad253) t242.length co42 : Value).ownBlock ∧ some k_ ≠ (.slice (some ad259) t250.length co44 : Value).ownBlock) (.slice (some ad257) t246.length co43) t246) ∧ (Kd.R Kd.string 9 w' w.heap.size (fun k_ => some k_ ≠ (.slice (some ad241) t238.length co19 : Value).ownBlock ∧ some k_ ≠ (.slice (some ad253) t242.length co42 : Value).ownBlock ∧ some k_ ≠ (.slice (some ad257) t246.length co43 : Value).ownBlock) (.slice (some ad259) t250.length co44) t250) ∧ (w'.heap[gb237]? = some (.cells #[.string (⟨#[]⟩ : ByteArray), .string (⟨#[]⟩ : ByteArray), .int .u64 0, .int .i64 0, .slice none 0 0, .int .i64 0] 25 (0, 0))) ∧ (w'.heap[s_]? = some (.cells #[.string (⟨#[]⟩ : ByteArray), .string (⟨#[]⟩ : ByteArray), .int .u64 0, .int .i64 0, .slice none 0 0, .int .i64 0] 25 (0, 0))) ∧ (w.heap.size ≤ s_) ∧ (w.heap.size ≤ s_) ∧ (gb237 ≠ s_) ∧ (s_ ≠ gb237) ∧ (Below w.heap.size w w')) ?_ ?_
              rotate_left
              ·intro hCont
               refine two_ (i := 9) (j := 19) (Ni := some 57) (Nj := some 8) #[true, true, true, true, true, true, true, true, true, true, true, true, true, false, true, true, true, false, false, false, false] #[true, true, true, true, true, true, true, true, true, false, true, true, true, false, true, true, true, false, false, true, false] rfl rfl rfl rfl (two_of HT_.out z85_) (by decide) (by decide) (fun K hK => ?_) (fun K hK => ?_)
               ·skip
                refine goes_ Tryz.func30 z85_ rfl #[.string (rdOf ByteArray.empty t242 3)] (by rfl) rfl rfl z31_ ?_
                with_reducible refine (cambistref19_Unsigned.calls kj15 (rdOf ByteArray.empty t242 3) t256 _ ?side1 A36.out).mono ?_
                (case side1 => exact Glob.below HG.out z40_)
                rintro e w45 ⟨rfl, hb⟩
                have HS0_ := (hb.cell (World.block_lt_of_cell? _ _ (hHeld.1))).trans (hHeld.1)
                have HS1_ := (hb.cell (World.block_lt_of_cell? _ _ (hHeld.2.1))).trans (hHeld.2.1)
                have HS2_ := (hb.cell (World.block_lt_of_cell? _ _ (hHeld.2.2.1))).trans (hHeld.2.2.1)
                have HS3_ := (hb.cell (World.block_lt_of_cell? _ _ (hHeld.2.2.2.1))).trans (hHeld.2.2.2.1)
                have HS4_ := (hb.cell (World.block_lt_of_cell? _ _ (hHeld.2.2.2.2))).trans (hHeld.2.2.2.2)
                refine ⟨_, rfl, ?_⟩
                have n0_ := a_ (Kd.R_below z53_ hb)
                have n1_ := a_ (Kd.R_below z58_ hb)
                have n2_ := a_ (Kd.R_below z59_ hb)
                have n3_ := a_ (Kd.R_below z60_ hb)
                have n4_ := a_ (blk_below (g := gb237) (o := .cells #[.string (⟨#[]⟩ : ByteArray), .string (⟨#[]⟩ : ByteArray), .int .u64 0, .int .i64 0, .slice none 0 0, .int .i64 0] 25 (0, 0)) z69_ hb)
                have n5_ := a_ (below_step z40_ hb)
                clear HO_4
                clear HO_5
                clear HO_6
                clear HO_7
                clear BK237
                clear HB
                have HO_4 := n0_
                have HO_5 := n1_
                have HO_6 := n2_
                have HO_7 := n3_
                have BK237 := n4_
                have HB := n5_
                clear n0_ n1_ n2_ n3_ n4_ n5_
                (try clear hb)
                (try clear hb2)
                (try clear hk)
                (try clear hi)
                refine hK.out _ _ ⟨HS0_, HS1_, HS2_, HS3_, HS4_⟩ (fun hHeld => ?_)
                clear hK K
                refine norm_ (a' := ?_) ?_ ?_
                rotate_left
                ·show Act.put _ (some 57) _ = _
                 simp only [Act.put, sT_, s0_, sS_, i64_w, i32_w]
                 rfl
                refine two_ (i := 13) (j := 19) (Ni := some 61) (Nj := some 8) #[true, true, true, true, true, true, true, true, true, true, true, true, true, true, true, true, true, false, false, false, false] #[true, true, true, true, true, true, true, true, true, true, true, true, true, false, true, true, true, false, false, true, false] rfl rfl rfl rfl (two_of HT_.out z85_) (by decide) (by decide) (fun K hK => ?_) (fun K hK => ?_)
                ·skip
                 refine goes_ Tryz.func31 z85_ rfl #[.string (rdOf ByteArray.empty t246 1)] (by rfl) rfl rfl z31_ ?_
                 with_reducible refine (cambistref19_amount.calls kj15 (rdOf ByteArray.empty t246 1) t258 _ ?side1 A38.out).mono ?_
                 (case side1 => exact Glob.below HG.out z40_)
                 rintro e w46 ⟨rfl, hb⟩
                 have HS0_ := (hb.cell (World.block_lt_of_cell? _ _ (hHeld.1))).trans (hHeld.1)
                 have HS1_ := (hb.cell (World.block_lt_of_cell? _ _ (hHeld.2.1))).trans (hHeld.2.1)
                 have HS2_ := (hb.cell (World.block_lt_of_cell? _ _ (hHeld.2.2.1))).trans (hHeld.2.2.1)
                 have HS3_ := (hb.cell (World.block_lt_of_cell? _ _ (hHeld.2.2.2.1))).trans (hHeld.2.2.2.1)
                 have HS4_ := (hb.cell (World.block_lt_of_cell? _ _ (hHeld.2.2.2.2))).trans (hHeld.2.2.2.2)
                 refine ⟨_, rfl, ?_⟩
                 have n0_ := a_ (Kd.R_below z53_ hb)
                 have n1_ := a_ (Kd.R_below z58_ hb)
                 have n2_ := a_ (Kd.R_below z59_ hb)
                 have n3_ := a_ (Kd.R_below z60_ hb)
                 have n4_ := a_ (blk_below (g := gb237) (o := .cells #[.string (⟨#[]⟩ : ByteArray), .string (⟨#[]⟩ : ByteArray), .int .u64 0, .int .i64 0, .slice none 0 0, .int .i64 0] 25 (0, 0)) z69_ hb)
                 have n5_ := a_ (below_step z40_ hb)
                 clear HO_4
                 clear HO_5
                 clear HO_6
                 clear HO_7
                 clear BK237
                 clear HB
                 have HO_4 := n0_
                 have HO_5 := n1_
                 have HO_6 := n2_
                 have HO_7 := n3_
                 have BK237 := n4_
                 have HB := n5_
                 clear n0_ n1_ n2_ n3_ n4_ n5_
                 (try clear hb)
                 (try clear hb2)
                 (try clear hk)
                 (try clear hi)
                 refine hK.out _ _ ⟨HS0_, HS1_, HS2_, HS3_, HS4_⟩ (fun hHeld => ?_)
                 clear hK K
                 refine norm_ (a' := ?_) ?_ ?_
                 rotate_left
                 ·show Act.put _ (some 61) _ = _
                  simp only [Act.put, sT_, s0_, sS_, i64_w, i32_w]
                  rfl
                 refine two_ (i := 17) (j := 19) (Ni := some 65) (Nj := some 8) #[true, true, true, true, true, true, true, true, true, true, true, true, true, true, true, true, true, true, false, false, false] #[true, true, true, true, true, true, true, true, true, true, true, true, true, true, true, true, true, false, false, true, false] rfl rfl rfl rfl (two_of HT_.out z85_) (by decide) (by decide) (fun K hK => ?_) (fun K hK => ?_)
                 ·skip
                  refine goes_ Tryz.func31 z85_ rfl #[.string (rdOf ByteArray.empty t250 1)] (by rfl) rfl rfl z31_ ?_
                  with_reducible refine (cambistref19_amount.calls kj15 (rdOf ByteArray.empty t250 1) t260 _ ?side1 A40.out).mono ?_
                  (case side1 => exact Glob.below HG.out z40_)
                  rintro e w47 ⟨rfl, hb⟩
                  have HS0_ := (hb.cell (World.block_lt_of_cell? _ _ (hHeld.1))).trans (hHeld.1)
                  have HS1_ := (hb.cell (World.block_lt_of_cell? _ _ (hHeld.2.1))).trans (hHeld.2.1)
                  have HS2_ := (hb.cell (World.block_lt_of_cell? _ _ (hHeld.2.2.1))).trans (hHeld.2.2.1)
                  have HS3_ := (hb.cell (World.block_lt_of_cell? _ _ (hHeld.2.2.2.1))).trans (hHeld.2.2.2.1)
                  have HS4_ := (hb.cell (World.block_lt_of_cell? _ _ (hHeld.2.2.2.2))).trans (hHeld.2.2.2.2)
                  refine ⟨_, rfl, ?_⟩
                  have n0_ := a_ (Kd.R_below z53_ hb)
                  have n1_ := a_ (Kd.R_below z58_ hb)
                  have n2_ := a_ (Kd.R_below z59_ hb)
                  have n3_ := a_ (Kd.R_below z60_ hb)
                  have n4_ := a_ (blk_below (g := gb237) (o := .cells #[.string (⟨#[]⟩ : ByteArray), .string (⟨#[]⟩ : ByteArray), .int .u64 0, .int .i64 0, .slice none 0 0, .int .i64 0] 25 (0, 0)) z69_ hb)
                  have n5_ := a_ (below_step z40_ hb)
                  clear HO_4
                  clear HO_5
                  clear HO_6
                  clear HO_7
                  clear BK237
                  clear HB
                  have HO_4 := n0_
                  have HO_5 := n1_
                  have HO_6 := n2_
                  have HO_7 := n3_
                  have BK237 := n4_
                  have HB := n5_
                  clear n0_ n1_ n2_ n3_ n4_ n5_
                  (try clear hb)
                  (try clear hb2)
                  (try clear hk)
                  (try clear hi)
                  refine hK.out _ _ ⟨HS0_, HS1_, HS2_, HS3_, HS4_⟩ (fun hHeld => ?_)
                  clear hK K
                  refine norm_ (a' := ?_) ?_ ?_
                  rotate_left
                  ·show Act.put _ (some 65) _ = _
                   simp only [Act.put, sT_, s0_, sS_, i64_w, i32_w]
                   rfl
                  refine pure_ (i := 18) (N := some 66) (v := ?_) (a' := ?_) (fl_ 21 524287) rfl rfl (any_of HT_.out z85_) (fun _ _ _ h => h) (Or.inl ⟨by rfl, ?_⟩) ?_ ?_
                  rotate_left
                  ·intro w'
                   go_simp
                   with_reducible rfl
                  rotate_left
                  ·simp only [Act.put, sT_, s0_, sS_, i64_w, i32_w]
                   rfl
                  refine one_ (i := 19) (N := some 8) (fl_ 21 1048575) rfl rfl (one_of HT_.out z85_) (by decide) (fun K hK => ?_)
                  refine box_step ?hg (N := 8) ?hd (cs := #[.string (⟨#[]⟩ : ByteArray), .string (⟨#[]⟩ : ByteArray), .int .u64 0, .int .i64 0, .slice none 0 0, .int .i64 0]) (t := 25) ?hr ?_; (case hd => rfl); (case hg => rfl); (case hr => first | (go_simp; done) | (go_simp; rfl))
                  intro gb261 hg w48 hbox hb
                  have HS0_ := (hb.cell (World.block_lt_of_cell? _ _ (hHeld.1))).trans (hHeld.1)
                  have HS1_ := (hb.cell (World.block_lt_of_cell? _ _ (hHeld.2.1))).trans (hHeld.2.1)
                  have HS2_ := (hb.cell (World.block_lt_of_cell? _ _ (hHeld.2.2.1))).trans (hHeld.2.2.1)
                  have HS3_ := (hb.cell (World.block_lt_of_cell? _ _ (hHeld.2.2.2.1))).trans (hHeld.2.2.2.1)
                  have HS4_ := (hb.cell (World.block_lt_of_cell? _ _ (hHeld.2.2.2.2))).trans (hHeld.2.2.2.2)
                  have n0_ := a_ (Kd.R_below z53_ hb)
                  have n1_ := a_ (Kd.R_below z58_ hb)
                  have n2_ := a_ (Kd.R_below z59_ hb)
                  have n3_ := a_ (Kd.R_below z60_ hb)
                  have n4_ := a_ (blk_below (g := gb237) (o := .cells #[.string (⟨#[]⟩ : ByteArray), .string (⟨#[]⟩ : ByteArray), .int .u64 0, .int .i64 0, .slice none 0 0, .int .i64 0] 25 (0, 0)) z69_ hb)
                  have n5_ := a_ (below_step z40_ hb)
                  have n6_ := a_ (hbox)
                  have n7_ := a_ ((z18_ : w.heap.size ≤ gb261))
                  have n8_ := a_ ((z18_ : w.heap.size ≤ gb261))
                  have n9_ := a_ ((by rw [hg]; exact Nat.ne_of_lt (blk_lt (g := gb237) (o := .cells #[.string (⟨#[]⟩ : ByteArray), .string (⟨#[]⟩ : ByteArray), .int .u64 0, .int .i64 0, .slice none 0 0, .int .i64 0] 25 (0, 0)) z69_) : gb237 ≠ gb261))
                  have n10_ := a_ ((by rw [hg]; exact Nat.ne_of_gt (blk_lt (g := gb237) (o := .cells #[.string (⟨#[]⟩ : ByteArray), .string (⟨#[]⟩ : ByteArray), .int .u64 0, .int .i64 0, .slice none 0 0, .int .i64 0] 25 (0, 0)) z69_) : gb261 ≠ gb237))
                  clear HO_4
                  clear HO_5
                  clear HO_6
                  clear HO_7
                  clear BK237
                  clear HB
                  have HO_4 := n0_
                  have HO_5 := n1_
                  have HO_6 := n2_
                  have HO_7 := n3_
                  have BK237 := n4_
                  have HB := n5_
                  have BK261 := n6_
                  have GW261 := n7_
                  have GE261 := n8_
                  have NB237_261 := n9_
                  have NB261_237 := n10_
                  clear n0_ n1_ n2_ n3_ n4_ n5_ n6_ n7_ n8_ n9_ n10_
                  clear hb hbox hg
                  refine hK.out _ _ ⟨HS0_, HS1_, HS2_, HS3_, HS4_⟩ (fun hHeld => ?_)
                  clear hK K
                  refine norm_ (a' := ?_) ?_ ?_
                  rotate_left
                  ·show Act.put _ (some 8) _ = _
                   simp only [Act.put, sT_, s0_, sS_, i64_w, i32_w]
                   rfl
                  exact norm_ z81_ (hCont (gb261) _ ⟨hHeld, z53_, z58_, z59_, z60_, z69_, z70_, GW261.out, GE261.out, NB237_261.out, NB261_237.out, z23_⟩)
                 ·skip
                  refine box_step ?hg (N := 8) ?hd (cs := #[.string (⟨#[]⟩ : ByteArray), .string (⟨#[]⟩ : ByteArray), .int .u64 0, .int .i64 0, .slice none 0 0, .int .i64 0]) (t := 25) ?hr ?_; (case hd => rfl); (case hg => rfl); (case hr => first | (go_simp; done) | (go_simp; rfl))
                  intro gb261 hg w47 hbox hb
                  have HS0_ := (hb.cell (World.block_lt_of_cell? _ _ (hHeld.1))).trans (hHeld.1)
                  have HS1_ := (hb.cell (World.block_lt_of_cell? _ _ (hHeld.2.1))).trans (hHeld.2.1)
                  have HS2_ := (hb.cell (World.block_lt_of_cell? _ _ (hHeld.2.2.1))).trans (hHeld.2.2.1)
                  have HS3_ := (hb.cell (World.block_lt_of_cell? _ _ (hHeld.2.2.2.1))).trans (hHeld.2.2.2.1)
                  have HS4_ := (hb.cell (World.block_lt_of_cell? _ _ (hHeld.2.2.2.2))).trans (hHeld.2.2.2.2)
                  have n0_ := a_ (Kd.R_below z53_ hb)
                  have n1_ := a_ (Kd.R_below z58_ hb)
                  have n2_ := a_ (Kd.R_below z59_ hb)
                  have n3_ := a_ (Kd.R_below z60_ hb)
                  have n4_ := a_ (blk_below (g := gb237) (o := .cells #[.string (⟨#[]⟩ : ByteArray), .string (⟨#[]⟩ : ByteArray), .int .u64 0, .int .i64 0, .slice none 0 0, .int .i64 0] 25 (0, 0)) z69_ hb)
                  have n5_ := a_ (below_step z40_ hb)
                  have n6_ := a_ (hbox)
                  have n7_ := a_ ((z18_ : w.heap.size ≤ gb261))
                  have n8_ := a_ ((z18_ : w.heap.size ≤ gb261))
                  have n9_ := a_ ((by rw [hg]; exact Nat.ne_of_lt (blk_lt (g := gb237) (o := .cells #[.string (⟨#[]⟩ : ByteArray), .string (⟨#[]⟩ : ByteArray), .int .u64 0, .int .i64 0, .slice none 0 0, .int .i64 0] 25 (0, 0)) z69_) : gb237 ≠ gb261))
                  have n10_ := a_ ((by rw [hg]; exact Nat.ne_of_gt (blk_lt (g := gb237) (o := .cells #[.string (⟨#[]⟩ : ByteArray), .string (⟨#[]⟩ : ByteArray), .int .u64 0, .int .i64 0, .slice none 0 0, .int .i64 0] 25 (0, 0)) z69_) : gb261 ≠ gb237))
                  clear HO_4
                  clear HO_5
                  clear HO_6
                  clear HO_7
                  clear BK237
                  clear HB
                  have HO_4 := n0_
                  have HO_5 := n1_
                  have HO_6 := n2_
                  have HO_7 := n3_
                  have BK237 := n4_
                  have HB := n5_
                  have BK261 := n6_
                  have GW261 := n7_
                  have GE261 := n8_
                  have NB237_261 := n9_
                  have NB261_237 := n10_
                  clear n0_ n1_ n2_ n3_ n4_ n5_ n6_ n7_ n8_ n9_ n10_
                  clear hb hbox hg
                  refine hK.out _ _ ⟨HS0_, HS1_, HS2_, HS3_, HS4_⟩ (fun hHeld => ?_)
                  clear hK K
                  refine norm_ (a' := ?_) ?_ ?_
                  rotate_left
                  ·show Act.put _ (some 8) _ = _
                   simp only [Act.put, sT_, s0_, sS_, i64_w, i32_w]
                   rfl
                  refine one_ (i := 17) (N := some 65) (fl_ 21 786431) rfl rfl (one_of HT_.out z85_) (by decide) (fun K hK => ?_)
                  refine goes_ Tryz.func31 z85_ rfl #[.string (rdOf ByteArray.empty t250 1)] (by rfl) rfl rfl z31_ ?_
                  with_reducible refine (cambistref19_amount.calls kj15 (rdOf ByteArray.empty t250 1) t260 _ ?side1 A40.out).mono ?_
                  (case side1 => exact Glob.below HG.out z23_)
                  rintro e w48 ⟨rfl, hb⟩
                  have HS0_ := (hb.cell (World.block_lt_of_cell? _ _ (hHeld.1))).trans (hHeld.1)
                  have HS1_ := (hb.cell (World.block_lt_of_cell? _ _ (hHeld.2.1))).trans (hHeld.2.1)
                  have HS2_ := (hb.cell (World.block_lt_of_cell? _ _ (hHeld.2.2.1))).trans (hHeld.2.2.1)
                  have HS3_ := (hb.cell (World.block_lt_of_cell? _ _ (hHeld.2.2.2.1))).trans (hHeld.2.2.2.1)
                  have HS4_ := (hb.cell (World.block_lt_of_cell? _ _ (hHeld.2.2.2.2))).trans (hHeld.2.2.2.2)
                  refine ⟨_, rfl, ?_⟩
                  have n0_ := a_ (Kd.R_below z53_ hb)
                  have n1_ := a_ (Kd.R_below z58_ hb)
                  have n2_ := a_ (Kd.R_below z59_ hb)
                  have n3_ := a_ (Kd.R_below z60_ hb)
                  have n4_ := a_ (blk_below (g := gb237) (o := .cells #[.string (⟨#[]⟩ : ByteArray), .string (⟨#[]⟩ : ByteArray), .int .u64 0, .int .i64 0, .slice none 0 0, .int .i64 0] 25 (0, 0)) z69_ hb)
                  have n5_ := a_ (blk_below (g := gb261) (o := .cells #[.string (⟨#[]⟩ : ByteArray), .string (⟨#[]⟩ : ByteArray), .int .u64 0, .int .i64 0, .slice none 0 0, .int .i64 0] 25 (0, 0)) z70_ hb)
                  have n6_ := a_ (below_step z23_ hb)
                  clear HO_4
                  clear HO_5
                  clear HO_6
                  clear HO_7
                  clear BK237
                  clear BK261
                  clear HB
                  have HO_4 := n0_
                  have HO_5 := n1_
                  have HO_6 := n2_
                  have HO_7 := n3_
                  have BK237 := n4_
                  have BK261 := n5_
                  have HB := n6_
                  clear n0_ n1_ n2_ n3_ n4_ n5_ n6_
                  (try clear hb)
                  (try clear hb2)
                  (try clear hk)
                  (try clear hi)
                  refine hK.out _ _ ⟨HS0_, HS1_, HS2_, HS3_, HS4_⟩ (fun hHeld => ?_)
                  clear hK K
                  refine norm_ (a' := ?_) ?_ ?_
                  rotate_left
                  ·show Act.put _ (some 65) _ = _
                   simp only [Act.put, sT_, s0_, sS_, i64_w, i32_w]
                   rfl
                  refine pure_ (i := 18) (N := some 66) (v := ?_) (a' := ?_) (fl_ 21 1048575) rfl rfl (any_of HT_.out z85_) (fun _ _ _ h => h) (Or.inl ⟨by rfl, ?_⟩) ?_ ?_
                  rotate_left
                  ·intro w'
                   go_simp
                   with_reducible rfl
                  rotate_left
                  ·simp only [Act.put, sT_, s0_, sS_, i64_w, i32_w]
                   rfl
                  exact norm_ z81_ (hCont (gb261) _ ⟨hHeld, z53_, z58_, z59_, z60_, z69_, z70_, GW261.out, GE261.out, NB237_261.out, NB261_237.out, z23_⟩)
                ·skip
                 refine box_step ?hg (N := 8) ?hd (cs := #[.string (⟨#[]⟩ : ByteArray), .string (⟨#[]⟩ : ByteArray), .int .u64 0, .int .i64 0, .slice none 0 0, .int .i64 0]) (t := 25) ?hr ?_; (case hd => rfl); (case hg => rfl); (case hr => first | (go_simp; done) | (go_simp; rfl))
                 intro gb261 hg w46 hbox hb
                 have HS0_ := (hb.cell (World.block_lt_of_cell? _ _ (hHeld.1))).trans (hHeld.1)
                 have HS1_ := (hb.cell (World.block_lt_of_cell? _ _ (hHeld.2.1))).trans (hHeld.2.1)
                 have HS2_ := (hb.cell (World.block_lt_of_cell? _ _ (hHeld.2.2.1))).trans (hHeld.2.2.1)
                 have HS3_ := (hb.cell (World.block_lt_of_cell? _ _ (hHeld.2.2.2.1))).trans (hHeld.2.2.2.1)
                 have HS4_ := (hb.cell (World.block_lt_of_cell? _ _ (hHeld.2.2.2.2))).trans (hHeld.2.2.2.2)
                 have n0_ := a_ (Kd.R_below z53_ hb)
                 have n1_ := a_ (Kd.R_below z58_ hb)
                 have n2_ := a_ (Kd.R_below z59_ hb)
                 have n3_ := a_ (Kd.R_below z60_ hb)
                 have n4_ := a_ (blk_below (g := gb237) (o := .cells #[.string (⟨#[]⟩ : ByteArray), .string (⟨#[]⟩ : ByteArray), .int .u64 0, .int .i64 0, .slice none 0 0, .int .i64 0] 25 (0, 0)) z69_ hb)
                 have n5_ := a_ (below_step z40_ hb)
                 have n6_ := a_ (hbox)
                 have n7_ := a_ ((z18_ : w.heap.size ≤ gb261))
                 have n8_ := a_ ((z18_ : w.heap.size ≤ gb261))
                 have n9_ := a_ ((by rw [hg]; exact Nat.ne_of_lt (blk_lt (g := gb237) (o := .cells #[.string (⟨#[]⟩ : ByteArray), .string (⟨#[]⟩ : ByteArray), .int .u64 0, .int .i64 0, .slice none 0 0, .int .i64 0] 25 (0, 0)) z69_) : gb237 ≠ gb261))
                 have n10_ := a_ ((by rw [hg]; exact Nat.ne_of_gt (blk_lt (g := gb237) (o := .cells #[.string (⟨#[]⟩ : ByteArray), .string (⟨#[]⟩ : ByteArray), .int .u64 0, .int .i64 0, .slice none 0 0, .int .i64 0] 25 (0, 0)) z69_) : gb261 ≠ gb237))
                 clear HO_4
                 clear HO_5
                 clear HO_6
                 clear HO_7
                 clear BK237
                 clear HB
                 have HO_4 := n0_
                 have HO_5 := n1_
                 have HO_6 := n2_
                 have HO_7 := n3_
                 have BK237 := n4_
                 have HB := n5_
                 have BK261 := n6_
                 have GW261 := n7_
                 have GE261 := n8_
                 have NB237_261 := n9_
                 have NB261_237 := n10_
                 clear n0_ n1_ n2_ n3_ n4_ n5_ n6_ n7_ n8_ n9_ n10_
                 clear hb hbox hg
                 refine hK.out _ _ ⟨HS0_, HS1_, HS2_, HS3_, HS4_⟩ (fun hHeld => ?_)
                 clear hK K
                 refine norm_ (a' := ?_) ?_ ?_
                 rotate_left
                 ·show Act.put _ (some 8) _ = _
                  simp only [Act.put, sT_, s0_, sS_, i64_w, i32_w]
                  rfl
                 refine one_ (i := 13) (N := some 61) (fl_ 21 655359) rfl rfl (one_of HT_.out z85_) (by decide) (fun K hK => ?_)
                 refine goes_ Tryz.func31 z85_ rfl #[.string (rdOf ByteArray.empty t246 1)] (by rfl) rfl rfl z31_ ?_
                 with_reducible refine (cambistref19_amount.calls kj15 (rdOf ByteArray.empty t246 1) t258 _ ?side1 A38.out).mono ?_
                 (case side1 => exact Glob.below HG.out z23_)
                 rintro e w47 ⟨rfl, hb⟩
                 have HS0_ := (hb.cell (World.block_lt_of_cell? _ _ (hHeld.1))).trans (hHeld.1)
                 have HS1_ := (hb.cell (World.block_lt_of_cell? _ _ (hHeld.2.1))).trans (hHeld.2.1)
                 have HS2_ := (hb.cell (World.block_lt_of_cell? _ _ (hHeld.2.2.1))).trans (hHeld.2.2.1)
                 have HS3_ := (hb.cell (World.block_lt_of_cell? _ _ (hHeld.2.2.2.1))).trans (hHeld.2.2.2.1)
                 have HS4_ := (hb.cell (World.block_lt_of_cell? _ _ (hHeld.2.2.2.2))).trans (hHeld.2.2.2.2)
                 refine ⟨_, rfl, ?_⟩
                 have n0_ := a_ (Kd.R_below z53_ hb)
                 have n1_ := a_ (Kd.R_below z58_ hb)
                 have n2_ := a_ (Kd.R_below z59_ hb)
                 have n3_ := a_ (Kd.R_below z60_ hb)
                 have n4_ := a_ (blk_below (g := gb237) (o := .cells #[.string (⟨#[]⟩ : ByteArray), .string (⟨#[]⟩ : ByteArray), .int .u64 0, .int .i64 0, .slice none 0 0, .int .i64 0] 25 (0, 0)) z69_ hb)
                 have n5_ := a_ (blk_below (g := gb261) (o := .cells #[.string (⟨#[]⟩ : ByteArray), .string (⟨#[]⟩ : ByteArray), .int .u64 0, .int .i64 0, .slice none 0 0, .int .i64 0] 25 (0, 0)) z70_ hb)
                 have n6_ := a_ (below_step z23_ hb)
                 clear HO_4
                 clear HO_5
                 clear HO_6
                 clear HO_7
                 clear BK237
                 clear BK261
                 clear HB
                 have HO_4 := n0_
                 have HO_5 := n1_
                 have HO_6 := n2_
                 have HO_7 := n3_
                 have BK237 := n4_
                 have BK261 := n5_
                 have HB := n6_
                 clear n0_ n1_ n2_ n3_ n4_ n5_ n6_
                 (try clear hb)
                 (try clear hb2)
                 (try clear hk)
                 (try clear hi)
                 refine hK.out _ _ ⟨HS0_, HS1_, HS2_, HS3_, HS4_⟩ (fun hHeld => ?_)
                 clear hK K
                 refine norm_ (a' := ?_) ?_ ?_
                 rotate_left
                 ·show Act.put _ (some 61) _ = _
                  simp only [Act.put, sT_, s0_, sS_, i64_w, i32_w]
                  rfl
                 refine one_ (i := 17) (N := some 65) (fl_ 21 786431) rfl rfl (one_of HT_.out z85_) (by decide) (fun K hK => ?_)
                 refine goes_ Tryz.func31 z85_ rfl #[.string (rdOf ByteArray.empty t250 1)] (by rfl) rfl rfl z31_ ?_
                 with_reducible refine (cambistref19_amount.calls kj15 (rdOf ByteArray.empty t250 1) t260 _ ?side1 A40.out).mono ?_
                 (case side1 => exact Glob.below HG.out z23_)
                 rintro e w48 ⟨rfl, hb⟩
                 have HS0_ := (hb.cell (World.block_lt_of_cell? _ _ (hHeld.1))).trans (hHeld.1)
                 have HS1_ := (hb.cell (World.block_lt_of_cell? _ _ (hHeld.2.1))).trans (hHeld.2.1)
                 have HS2_ := (hb.cell (World.block_lt_of_cell? _ _ (hHeld.2.2.1))).trans (hHeld.2.2.1)
                 have HS3_ := (hb.cell (World.block_lt_of_cell? _ _ (hHeld.2.2.2.1))).trans (hHeld.2.2.2.1)
                 have HS4_ := (hb.cell (World.block_lt_of_cell? _ _ (hHeld.2.2.2.2))).trans (hHeld.2.2.2.2)
                 refine ⟨_, rfl, ?_⟩
                 have n0_ := a_ (Kd.R_below z53_ hb)
                 have n1_ := a_ (Kd.R_below z58_ hb)
                 have n2_ := a_ (Kd.R_below z59_ hb)
                 have n3_ := a_ (Kd.R_below z60_ hb)
                 have n4_ := a_ (blk_below (g := gb237) (o := .cells #[.string (⟨#[]⟩ : ByteArray), .string (⟨#[]⟩ : ByteArray), .int .u64 0, .int .i64 0, .slice none 0 0, .int .i64 0] 25 (0, 0)) z69_ hb)
                 have n5_ := a_ (blk_below (g := gb261) (o := .cells #[.string (⟨#[]⟩ : ByteArray), .string (⟨#[]⟩ : ByteArray), .int .u64 0, .int .i64 0, .slice none 0 0, .int .i64 0] 25 (0, 0)) z70_ hb)
                 have n6_ := a_ (below_step z23_ hb)
                 clear HO_4
                 clear HO_5
                 clear HO_6
                 clear HO_7
                 clear BK237
                 clear BK261
                 clear HB
                 have HO_4 := n0_
                 have HO_5 := n1_
                 have HO_6 := n2_
                 have HO_7 := n3_
                 have BK237 := n4_
                 have BK261 := n5_
                 have HB := n6_
                 clear n0_ n1_ n2_ n3_ n4_ n5_ n6_
                 (try clear hb)
                 (try clear hb2)
                 (try clear hk)
                 (try clear hi)
                 refine hK.out _ _ ⟨HS0_, HS1_, HS2_, HS3_, HS4_⟩ (fun hHeld => ?_)
                 clear hK K
                 refine norm_ (a' := ?_) ?_ ?_
                 rotate_left
                 ·show Act.put _ (some 65) _ = _
                  simp only [Act.put, sT_, s0_, sS_, i64_w, i32_w]
                  rfl
                 refine pure_ (i := 18) (N := some 66) (v := ?_) (a' := ?_) (fl_ 21 1048575) rfl rfl (any_of HT_.out z85_) (fun _ _ _ h => h) (Or.inl ⟨by rfl, ?_⟩) ?_ ?_
                 rotate_left
                 ·intro w'
                  go_simp
                  with_reducible rfl
                 rotate_left
                 ·simp only [Act.put, sT_, s0_, sS_, i64_w, i32_w]
                  rfl
                 exact norm_ z81_ (hCont (gb261) _ ⟨hHeld, z53_, z58_, z59_, z60_, z69_, z70_, GW261.out, GE261.out, NB237_261.out, NB261_237.out, z23_⟩)
               ·skip
                refine box_step ?hg (N := 8) ?hd (cs := #[.string (⟨#[]⟩ : ByteArray), .string (⟨#[]⟩ : ByteArray), .int .u64 0, .int .i64 0, .slice none 0 0, .int .i64 0]) (t := 25) ?hr ?_; (case hd => rfl); (case hg => rfl); (case hr => first | (go_simp; done) | (go_simp; rfl))
                intro gb261 hg w45 hbox hb
                have HS0_ := (hb.cell (World.block_lt_of_cell? _ _ (hHeld.1))).trans (hHeld.1)
                have HS1_ := (hb.cell (World.block_lt_of_cell? _ _ (hHeld.2.1))).trans (hHeld.2.1)
                have HS2_ := (hb.cell (World.block_lt_of_cell? _ _ (hHeld.2.2.1))).trans (hHeld.2.2.1)
                have HS3_ := (hb.cell (World.block_lt_of_cell? _ _ (hHeld.2.2.2.1))).trans (hHeld.2.2.2.1)
                have HS4_ := (hb.cell (World.block_lt_of_cell? _ _ (hHeld.2.2.2.2))).trans (hHeld.2.2.2.2)
                have n0_ := a_ (Kd.R_below z53_ hb)
                have n1_ := a_ (Kd.R_below z58_ hb)
                have n2_ := a_ (Kd.R_below z59_ hb)
                have n3_ := a_ (Kd.R_below z60_ hb)
                have n4_ := a_ (blk_below (g := gb237) (o := .cells #[.string (⟨#[]⟩ : ByteArray), .string (⟨#[]⟩ : ByteArray), .int .u64 0, .int .i64 0, .slice none 0 0, .int .i64 0] 25 (0, 0)) z69_ hb)
                have n5_ := a_ (below_step z40_ hb)
                have n6_ := a_ (hbox)
                have n7_ := a_ ((z18_ : w.heap.size ≤ gb261))
                have n8_ := a_ ((z18_ : w.heap.size ≤ gb261))
                have n9_ := a_ ((by rw [hg]; exact Nat.ne_of_lt (blk_lt (g := gb237) (o := .cells #[.string (⟨#[]⟩ : ByteArray), .string (⟨#[]⟩ : ByteArray), .int .u64 0, .int .i64 0, .slice none 0 0, .int .i64 0] 25 (0, 0)) z69_) : gb237 ≠ gb261))
                have n10_ := a_ ((by rw [hg]; exact Nat.ne_of_gt (blk_lt (g := gb237) (o := .cells #[.string (⟨#[]⟩ : ByteArray), .string (⟨#[]⟩ : ByteArray), .int .u64 0, .int .i64 0, .slice none 0 0, .int .i64 0] 25 (0, 0)) z69_) : gb261 ≠ gb237))
                clear HO_4
                clear HO_5
                clear HO_6
                clear HO_7
                clear BK237
                clear HB
                have HO_4 := n0_
                have HO_5 := n1_
                have HO_6 := n2_
                have HO_7 := n3_
                have BK237 := n4_
                have HB := n5_
                have BK261 := n6_
                have GW261 := n7_
                have GE261 := n8_
                have NB237_261 := n9_
                have NB261_237 := n10_
                clear n0_ n1_ n2_ n3_ n4_ n5_ n6_ n7_ n8_ n9_ n10_
                clear hb hbox hg
                refine hK.out _ _ ⟨HS0_, HS1_, HS2_, HS3_, HS4_⟩ (fun hHeld => ?_)
                clear hK K
                refine norm_ (a' := ?_) ?_ ?_
                rotate_left
                ·show Act.put _ (some 8) _ = _
                 simp only [Act.put, sT_, s0_, sS_, i64_w, i32_w]
                 rfl
                refine one_ (i := 9) (N := some 57) (fl_ 21 647167) rfl rfl (one_of HT_.out z85_) (by decide) (fun K hK => ?_)
                refine goes_ Tryz.func30 z85_ rfl #[.string (rdOf ByteArray.empty t242 3)] (by rfl) rfl rfl z31_ ?_
                with_reducible refine (cambistref19_Unsigned.calls kj15 (rdOf ByteArray.empty t242 3) t256 _ ?side1 A36.out).mono ?_
                (case side1 => exact Glob.below HG.out z23_)
                rintro e w46 ⟨rfl, hb⟩
                have HS0_ := (hb.cell (World.block_lt_of_cell? _ _ (hHeld.1))).trans (hHeld.1)
                have HS1_ := (hb.cell (World.block_lt_of_cell? _ _ (hHeld.2.1))).trans (hHeld.2.1)
                have HS2_ := (hb.cell (World.block_lt_of_cell? _ _ (hHeld.2.2.1))).trans (hHeld.2.2.1)
                have HS3_ := (hb.cell (World.block_lt_of_cell? _ _ (hHeld.2.2.2.1))).trans (hHeld.2.2.2.1)
                have HS4_ := (hb.cell (World.block_lt_of_cell? _ _ (hHeld.2.2.2.2))).trans (hHeld.2.2.2.2)
                refine ⟨_, rfl, ?_⟩
                have n0_ := a_ (Kd.R_below z53_ hb)
                have n1_ := a_ (Kd.R_below z58_ hb)
                have n2_ := a_ (Kd.R_below z59_ hb)
                have n3_ := a_ (Kd.R_below z60_ hb)
                have n4_ := a_ (blk_below (g := gb237) (o := .cells #[.string (⟨#[]⟩ : ByteArray), .string (⟨#[]⟩ : ByteArray), .int .u64 0, .int .i64 0, .slice none 0 0, .int .i64 0] 25 (0, 0)) z69_ hb)
                have n5_ := a_ (blk_below (g := gb261) (o := .cells #[.string (⟨#[]⟩ : ByteArray), .string (⟨#[]⟩ : ByteArray), .int .u64 0, .int .i64 0, .slice none 0 0, .int .i64 0] 25 (0, 0)) z70_ hb)
                have n6_ := a_ (below_step z23_ hb)
                clear HO_4
                clear HO_5
                clear HO_6
                clear HO_7
                clear BK237
                clear BK261
                clear HB
                have HO_4 := n0_
                have HO_5 := n1_
                have HO_6 := n2_
                have HO_7 := n3_
                have BK237 := n4_
                have BK261 := n5_
                have HB := n6_
                clear n0_ n1_ n2_ n3_ n4_ n5_ n6_
                (try clear hb)
                (try clear hb2)
                (try clear hk)
                (try clear hi)
                refine hK.out _ _ ⟨HS0_, HS1_, HS2_, HS3_, HS4_⟩ (fun hHeld => ?_)
                clear hK K
                refine norm_ (a' := ?_) ?_ ?_
                rotate_left
                ·show Act.put _ (some 57) _ = _
                 simp only [Act.put, sT_, s0_, sS_, i64_w, i32_w]
                 rfl
                refine one_ (i := 13) (N := some 61) (fl_ 21 655359) rfl rfl (one_of HT_.out z85_) (by decide) (fun K hK => ?_)
                refine goes_ Tryz.func31 z85_ rfl #[.string (rdOf ByteArray.empty t246 1)] (by rfl) rfl rfl z31_ ?_
                with_reducible refine (cambistref19_amount.calls kj15 (rdOf ByteArray.empty t246 1) t258 _ ?side1 A38.out).mono ?_
                (case side1 => exact Glob.below HG.out z23_)
                rintro e w47 ⟨rfl, hb⟩
                have HS0_ := (hb.cell (World.block_lt_of_cell? _ _ (hHeld.1))).trans (hHeld.1)
                have HS1_ := (hb.cell (World.block_lt_of_cell? _ _ (hHeld.2.1))).trans (hHeld.2.1)
                have HS2_ := (hb.cell (World.block_lt_of_cell? _ _ (hHeld.2.2.1))).trans (hHeld.2.2.1)
                have HS3_ := (hb.cell (World.block_lt_of_cell? _ _ (hHeld.2.2.2.1))).trans (hHeld.2.2.2.1)
                have HS4_ := (hb.cell (World.block_lt_of_cell? _ _ (hHeld.2.2.2.2))).trans (hHeld.2.2.2.2)
                refine ⟨_, rfl, ?_⟩
                have n0_ := a_ (Kd.R_below z53_ hb)
                have n1_ := a_ (Kd.R_below z58_ hb)
                have n2_ := a_ (Kd.R_below z59_ hb)
                have n3_ := a_ (Kd.R_below z60_ hb)
                have n4_ := a_ (blk_below (g := gb237) (o := .cells #[.string (⟨#[]⟩ : ByteArray), .string (⟨#[]⟩ : ByteArray), .int .u64 0, .int .i64 0, .slice none 0 0, .int .i64 0] 25 (0, 0)) z69_ hb)
                have n5_ := a_ (blk_below (g := gb261) (o := .cells #[.string (⟨#[]⟩ : ByteArray), .string (⟨#[]⟩ : ByteArray), .int .u64 0, .int .i64 0, .slice none 0 0, .int .i64 0] 25 (0, 0)) z70_ hb)
                have n6_ := a_ (below_step z23_ hb)
                clear HO_4
                clear HO_5
                clear HO_6
                clear HO_7
                clear BK237
                clear BK261
                clear HB
                have HO_4 := n0_
                have HO_5 := n1_
                have HO_6 := n2_
                have HO_7 := n3_
                have BK237 := n4_
                have BK261 := n5_
                have HB := n6_
                clear n0_ n1_ n2_ n3_ n4_ n5_ n6_
                (try clear hb)
                (try clear hb2)
                (try clear hk)
                (try clear hi)
                refine hK.out _ _ ⟨HS0_, HS1_, HS2_, HS3_, HS4_⟩ (fun hHeld => ?_)
                clear hK K
                refine norm_ (a' := ?_) ?_ ?_
                rotate_left
                ·show Act.put _ (some 61) _ = _
                 simp only [Act.put, sT_, s0_, sS_, i64_w, i32_w]
                 rfl
                refine one_ (i := 17) (N := some 65) (fl_ 21 786431) rfl rfl (one_of HT_.out z85_) (by decide) (fun K hK => ?_)
                refine goes_ Tryz.func31 z85_ rfl #[.string (rdOf ByteArray.empty t250 1)] (by rfl) rfl rfl z31_ ?_
                with_reducible refine (cambistref19_amount.calls kj15 (rdOf ByteArray.empty t250 1) t260 _ ?side1 A40.out).mono ?_
                (case side1 => exact Glob.below HG.out z23_)
                rintro e w48 ⟨rfl, hb⟩
                have HS0_ := (hb.cell (World.block_lt_of_cell? _ _ (hHeld.1))).trans (hHeld.1)
                have HS1_ := (hb.cell (World.block_lt_of_cell? _ _ (hHeld.2.1))).trans (hHeld.2.1)
                have HS2_ := (hb.cell (World.block_lt_of_cell? _ _ (hHeld.2.2.1))).trans (hHeld.2.2.1)
                have HS3_ := (hb.cell (World.block_lt_of_cell? _ _ (hHeld.2.2.2.1))).trans (hHeld.2.2.2.1)
                have HS4_ := (hb.cell (World.block_lt_of_cell? _ _ (hHeld.2.2.2.2))).trans (hHeld.2.2.2.2)
                refine ⟨_, rfl, ?_⟩
                have n0_ := a_ (Kd.R_below z53_ hb)
                have n1_ := a_ (Kd.R_below z58_ hb)
                have n2_ := a_ (Kd.R_below z59_ hb)
                have n3_ := a_ (Kd.R_below z60_ hb)
                have n4_ := a_ (blk_below (g := gb237) (o := .cells #[.string (⟨#[]⟩ : ByteArray), .string (⟨#[]⟩ : ByteArray), .int .u64 0, .int .i64 0, .slice none 0 0, .int .i64 0] 25 (0, 0)) z69_ hb)
                have n5_ := a_ (blk_below (g := gb261) (o := .cells #[.string (⟨#[]⟩ : ByteArray), .string (⟨#[]⟩ : ByteArray), .int .u64 0, .int .i64 0, .slice none 0 0, .int .i64 0] 25 (0, 0)) z70_ hb)
                have n6_ := a_ (below_step z23_ hb)
                clear HO_4
                clear HO_5
                clear HO_6
                clear HO_7
                clear BK237
                clear BK261
                clear HB
                have HO_4 := n0_
                have HO_5 := n1_
                have HO_6 := n2_
                have HO_7 := n3_
                have BK237 := n4_
                have BK261 := n5_
                have HB := n6_
                clear n0_ n1_ n2_ n3_ n4_ n5_ n6_
                (try clear hb)
                (try clear hb2)
                (try clear hk)
                (try clear hi)
                refine hK.out _ _ ⟨HS0_, HS1_, HS2_, HS3_, HS4_⟩ (fun hHeld => ?_)
                clear hK K
                refine norm_ (a' := ?_) ?_ ?_
                rotate_left
                ·show Act.put _ (some 65) _ = _
                 simp only [Act.put, sT_, s0_, sS_, i64_w, i32_w]
                 rfl
                refine pure_ (i := 18) (N := some 66) (v := ?_) (a' := ?_) (fl_ 21 1048575) rfl rfl (any_of HT_.out z85_) (fun _ _ _ h => h) (Or.inl ⟨by rfl, ?_⟩) ?_ ?_
                rotate_left
                ·intro w'
                 go_simp
                 with_reducible rfl
                rotate_left
                ·simp only [Act.put, sT_, s0_, sS_, i64_w, i32_w]
                 rfl
                exact norm_ z81_ (hCont (gb261) _ ⟨hHeld, z53_, z58_, z59_, z60_, z69_, z70_, GW261.out, GE261.out, NB237_261.out, NB261_237.out, z23_⟩)
              rintro gb261 w49 ⟨hS_, h0_, h1_, h2_, h3_, h4_, h5_, h6_, h7_, h8_, h9_, h10_⟩
              have n0_ : Aside0 (Kd.R Kd.string 9 w49 w.heap.size (fun k_ => some k_ ≠ (.slice (some ad253) t242.length co42 : Value).ownBlock ∧ some k_ ≠ (.slice (some ad257) t246.length co43 : Value).ownBlock ∧ some k_ ≠ (.slice (some ad259) t250.length co44 : Value).ownBlock) (.slice (some ad241) t238.length co19) t238) := ⟨h0_⟩
              have n1_ : Aside0 (Kd.R Kd.string 9 w49 w.heap.size (fun k_ => some k_ ≠ (.slice (some ad241) t238.length co19 : Value).ownBlock ∧ some k_ ≠ (.slice (some ad257) t246.length co43 : Value).ownBlock ∧ some k_ ≠ (.slice (some ad259) t250.length co44 : Value).ownBlock) (.slice (some ad253) t242.length co42) t242) := ⟨h1_⟩
              have n2_ : Aside0 (Kd.R Kd.string 9 w49 w.heap.size (fun k_ => some k_ ≠ (.slice (some ad241) t238.length co19 : Value).ownBlock ∧ some k_ ≠ (.slice (some ad253) t242.length co42 : Value).ownBlock ∧ some k_ ≠ (.slice (some ad259) t250.length co44 : Value).ownBlock) (.slice (some ad257) t246.length co43) t246) := ⟨h2_⟩
              have n3_ : Aside0 (Kd.R Kd.string 9 w49 w.heap.size (fun k_ => some k_ ≠ (.slice (some ad241) t238.length co19 : Value).ownBlock ∧ some k_ ≠ (.slice (some ad253) t242.length co42 : Value).ownBlock ∧ some k_ ≠ (.slice (some ad257) t246.length co43 : Value).ownBlock) (.slice (some ad259) t250.length co44) t250) := ⟨h3_⟩
              have n4_ : Aside0 (w49.heap[gb237]? = some (.cells #[.string (⟨#[]⟩ : ByteArray), .string (⟨#[]⟩ : ByteArray), .int .u64 0, .int .i64 0, .slice none 0 0, .int .i64 0] 25 (0, 0))) := ⟨h4_⟩
              have n5_ : Aside0 (w49.heap[gb261]? = some (.cells #[.string (⟨#[]⟩ : ByteArray), .string (⟨#[]⟩ : ByteArray), .int .u64 0, .int .i64 0, .slice none 0 0, .int .i64 0] 25 (0, 0))) := ⟨h5_⟩
              have n6_ : Aside0 (w.heap.size ≤ gb261) := ⟨h6_⟩
              have n7_ : Aside0 (w.heap.size ≤ gb261) := ⟨h7_⟩
              have n8_ : Aside0 (gb237 ≠ gb261) := ⟨h8_⟩
              have n9_ : Aside0 (gb261 ≠ gb237) := ⟨h9_⟩
              have n10_ : Aside0 (Below w.heap.size w w49) := ⟨h10_⟩
              clear HO_4
              clear HO_5
              clear HO_6
              clear HO_7
              clear BK237
              clear HB
              clear h0_ h1_ h2_ h3_ h4_ h5_ h6_ h7_ h8_ h9_ h10_
              have HO_4 := n0_
              have HO_5 := n1_
              have HO_6 := n2_
              have HO_7 := n3_
              have BK237 := n4_
              have BK261 := n5_
              have GW261 := n6_
              have GE261 := n7_
              have NB237_261 := n8_
              have NB261_237 := n9_
              have HB := n10_
              clear n0_ n1_ n2_ n3_ n4_ n5_ n6_ n7_ n8_ n9_ n10_
              have hHeld : w49.cell? ⟨ad253.block, ad253.off + 1, none⟩ = some (.string (rdOf ByteArray.empty t242 1)) ∧ w49.cell? ⟨ad253.block, ad253.off + 2, none⟩ = some (.string (rdOf ByteArray.empty t242 2)) ∧ w49.cell? ⟨ad253.block, ad253.off + 3, none⟩ = some (.string (rdOf ByteArray.empty t242 3)) ∧ w49.cell? ⟨ad257.block, ad257.off + 1, none⟩ = some (.string (rdOf ByteArray.empty t246 1)) ∧ w49.cell? ⟨ad259.block, ad259.off + 1, none⟩ = some (.string (rdOf ByteArray.empty t250 1)) := hS_
              refine norm_ (a' := ?_) ?_ ?_
              rotate_left
              ·simp only [putAll, Act.put, sT_, s0_, sS_]
               rfl
              refine one_ (i := 20) (N := none) (fl_ 21 2097151) rfl rfl (one_of HT_.out z85_) (by decide) (fun K hK => ?_)
              have hs50 : w49.cell? ⟨gb261, 0, none⟩ = some (.string (⟨#[]⟩ : ByteArray)) := (blk_cell BK261.out 0).trans rfl
              have hfs50 := blk_frozen BK261.out 0
              have hns50_0 := NB237_261.out
              have hms50_0 := NB261_237.out
              have hs51 : w49.cell? ⟨gb261, 1, none⟩ = some (.string (⟨#[]⟩ : ByteArray)) := (blk_cell BK261.out 1).trans rfl
              have hfs51 := blk_frozen BK261.out 1
              have hns51_0 := NB237_261.out
              have hms51_0 := NB261_237.out
              have hs52 : w49.cell? ⟨gb261, 2, none⟩ = some (.int .u64 0) := (blk_cell BK261.out 2).trans rfl
              have hfs52 := blk_frozen BK261.out 2
              have hns52_0 := NB237_261.out
              have hms52_0 := NB261_237.out
              have hs53 : w49.cell? ⟨gb261, 3, none⟩ = some (.int .i64 0) := (blk_cell BK261.out 3).trans rfl
              have hfs53 := blk_frozen BK261.out 3
              have hns53_0 := NB237_261.out
              have hms53_0 := NB261_237.out
              have hs54 : w49.cell? ⟨gb261, 4, none⟩ = some (.slice none 0 0) := (blk_cell BK261.out 4).trans rfl
              have hfs54 := blk_frozen BK261.out 4
              have hns54_0 := NB237_261.out
              have hms54_0 := NB261_237.out
              have hs55 : w49.cell? ⟨gb261, 5, none⟩ = some (.int .i64 0) := (blk_cell BK261.out 5).trans rfl
              have hfs55 := blk_frozen BK261.out 5
              have hns55_0 := NB237_261.out
              have hms55_0 := NB261_237.out
              refine skip_ (w1 := ?_) (by rfl) rfl ?_ ?_
              rotate_left
              ·go_simp
               rfl
              have q1 : ad253.block ≠ gb261 := z8_
              have q2 : ad257.block ≠ gb261 := z9_
              have q3 : ad259.block ≠ gb261 := z10_
              refine hK.out _ _ ?hs (fun hHeld => ?_)
              case hs =>
               exact ⟨far6_ q1 hHeld.1, far6_ q1 hHeld.2.1, far6_ q1 hHeld.2.2.1, far6_ q2 hHeld.2.2.2.1, far6_ q3 hHeld.2.2.2.2⟩
              clear hK K
              refine done_ (done_of HT_.out z85_) ?_
              try go_wp2
              go_loopg [9] kj15 (fun kq v9 w' => ∃ (x9_2 : Int) (x238000_2 : ByteArray) (x238001_2 : ByteArray) (x238002_2 : Int) (x238003_2 : Int) (x238005_2 : Int) (x262004_2 : List (S37)) (u262004 : Value), v9 = .int .i64 x9_2 ∧ Aside0 (cambistref19_Parse.l0 kq a0 t238 x9_2 (rdOf ByteArray.empty t242 1) (rdOf ByteArray.empty t242 2) t256 t258 x262004_2 t260 = some (r1, r2, r3, r4, r5, r6, r7)) ∧ Aside0 (kq ≤ kj15) ∧ Aside0 (Kd.R Kd.string 9 w' w.heap.size (fun _ => True) (.slice (some ad241) t238.length co19) t238) ∧ Aside0 (Kd.R k37 37 w' w.heap.size (fun _ => True) u262004 x262004_2) ∧ Aside0 (w'.heap[gb237]? = some (.cells #[.string x238000_2, .string x238001_2, .int .u64 x238002_2, .int .i64 x238003_2, (.slice none 0 0), .int .i64 x238005_2] 25 (0, 0))) ∧ Aside0 (w'.heap[gb261]? = some (.cells #[.string (rdOf ByteArray.empty t242 1), .string (rdOf ByteArray.empty t242 2), .int .u64 t256, .int .i64 t258, u262004, .int .i64 t260] 25 (0, 0))) ∧ Aside0 (Below w.heap.size w w'))
              case atStart => exact ⟨(2), ((⟨#[]⟩ : ByteArray)), ((⟨#[]⟩ : ByteArray)), (0), (0), (0), (([] : List (S37))), (.slice none 0 0), z80_, H', ⟨Nat.le_refl _⟩, ⟨by (with_reducible repeat (first | apply Kd.R_alloc | apply Kd.R_drewN | apply Kd.R_drew)); exact Kd.R_mono (Kd.R_far (p := ⟨gb261, 5, none⟩) (Kd.R_far (p := ⟨gb261, 4, none⟩) (Kd.R_far (p := ⟨gb261, 3, none⟩) (Kd.R_far (p := ⟨gb261, 2, none⟩) (Kd.R_far (p := ⟨gb261, 1, none⟩) (Kd.R_far (p := ⟨gb261, 0, none⟩) (Kd.R_types HO_4.out BK261.out (by decide)) (fun _ hk => hk.2) (.string (rdOf ByteArray.empty t242 1))) (fun _ hk => hk.2) (.string (rdOf ByteArray.empty t242 2))) (fun _ hk => hk.2) (.int .u64 t256)) (fun _ hk => hk.2) (.int .i64 t258)) (fun _ hk => hk.2) (.slice none 0 0)) (fun _ hk => hk.2) (.int .i64 t260)) (fun _ hk => trivial)⟩, ⟨z30_⟩, ⟨by (with_reducible repeat (first | refine kN_ ?_ _ | refine kD_ ?_ | refine kA_ ?_ _)); refine blk_far ?_ NB237_261.out _; (with_reducible repeat (first | refine kN_ ?_ _ | refine kD_ ?_ | refine kA_ ?_ _)); refine blk_far ?_ NB237_261.out _; (with_reducible repeat (first | refine kN_ ?_ _ | refine kD_ ?_ | refine kA_ ?_ _)); refine blk_far ?_ NB237_261.out _; (with_reducible repeat (first | refine kN_ ?_ _ | refine kD_ ?_ | refine kA_ ?_ _)); refine blk_far ?_ NB237_261.out _; (with_reducible repeat (first | refine kN_ ?_ _ | refine kD_ ?_ | refine kA_ ?_ _)); refine blk_far ?_ NB237_261.out _; (with_reducible repeat (first | refine kN_ ?_ _ | refine kD_ ?_ | refine kA_ ?_ _)); refine blk_far ?_ NB237_261.out _; (with_reducible repeat (first | refine kN_ ?_ _ | refine kD_ ?_ | refine kA_ ?_ _)); exact BK237.out⟩, ⟨by (with_reducible repeat (first | refine kN_ ?_ _ | refine kD_ ?_ | refine kA_ ?_ _)); refine blk_put (cs := #[.string (rdOf ByteArray.empty t242 1), .string (rdOf ByteArray.empty t242 2), .int .u64 t256, .int .i64 t258, .slice none 0 0, .int .i64 0]) ?_ 5 _ rfl; (with_reducible repeat (first | refine kN_ ?_ _ | refine kD_ ?_ | refine kA_ ?_ _)); refine blk_put (cs := #[.string (rdOf ByteArray.empty t242 1), .string (rdOf ByteArray.empty t242 2), .int .u64 t256, .int .i64 t258, .slice none 0 0, .int .i64 0]) ?_ 4 _ rfl; (with_reducible repeat (first | refine kN_ ?_ _ | refine kD_ ?_ | refine kA_ ?_ _)); refine blk_put (cs := #[.string (rdOf ByteArray.empty t242 1), .string (rdOf ByteArray.empty t242 2), .int .u64 t256, .int .i64 0, .slice none 0 0, .int .i64 0]) ?_ 3 _ rfl; (with_reducible repeat (first | refine kN_ ?_ _ | refine kD_ ?_ | refine kA_ ?_ _)); refine blk_put (cs := #[.string (rdOf ByteArray.empty t242 1), .string (rdOf ByteArray.empty t242 2), .int .u64 0, .int .i64 0, .slice none 0 0, .int .i64 0]) ?_ 2 _ rfl; (with_reducible repeat (first | refine kN_ ?_ _ | refine kD_ ?_ | refine kA_ ?_ _)); refine blk_put (cs := #[.string (rdOf ByteArray.empty t242 1), .string (⟨#[]⟩ : ByteArray), .int .u64 0, .int .i64 0, .slice none 0 0, .int .i64 0]) ?_ 1 _ rfl; (with_reducible repeat (first | refine kN_ ?_ _ | refine kD_ ?_ | refine kA_ ?_ _)); refine blk_put (cs := #[.string (⟨#[]⟩ : ByteArray), .string (⟨#[]⟩ : ByteArray), .int .u64 0, .int .i64 0, .slice none 0 0, .int .i64 0]) ?_ 0 _ rfl; (with_reducible repeat (first | refine kN_ ?_ _ | refine kD_ ?_ | refine kA_ ?_ _)); exact BK261.out⟩, ⟨z23_⟩⟩
              case round =>
               clear H'
               try clear p2
               try clear c3
               try clear c30
               try clear c31
               obtain ⟨x9_2, x238000_2, x238001_2, x238002_2, x238003_2, x238005_2, x262004_2, u262004, rfl, HA, HK2, HO_4, HO_262004, BK237, BK261, HB⟩ := hrel
               cases gk with
               | zero => exact absurd HA.out (by simp [cambistref19_Parse.l0])
               | succ k2 =>
                have H := HA.out
                clear HA
                simp only [cambistref19_Parse.l0] at H
                by_cases c56 : x9_2 < (wrap64 ((t238.length : Int) - 1))
                ·rw [if_pos c56] at H
                 have c56b0 : decide (x9_2 < (wrap64 ((t238.length : Int) - 1))) = true := decide_eq_true c56
                 rw [hji12] at c56b0
                 clear c56
                 by_cases c57 : 0 ≤ x9_2
                 ·rw [if_pos c57] at H
                  have c57b0 : decide (0 ≤ x9_2) = true := decide_eq_true c57
                  clear c57
                  by_cases c58 : x9_2 < (t238.length : Int)
                  ·rw [if_pos c58] at H
                   have c58b0 : decide (x9_2 < (t238.length : Int)) = true := decide_eq_true c58
                   clear c58
                   replace H := Option.bind_eq_some_iff.mp H
                   obtain ⟨t265, A590, H⟩ := H
                   replace H : (if (t265.length : Int) = 4 then (if 1 < (t265.length : Int) then ((cambistref19_Unsigned.f k2 (rdOf ByteArray.empty t265 1)).bind fun t269 => (if 2 < (t265.length : Int) then (if 3 < (t265.length : Int) then ((cambistref19_amount.f k2 (rdOf ByteArray.empty t265 3)).bind fun t272 => (if x262004_2.length < 4398046511104 then (cambistref19_Parse.l0 k2 a0 t238 (wrap64 (x9_2 + 1)) (rdOf ByteArray.empty t242 1) (rdOf ByteArray.empty t242 2) t256 t258 (x262004_2 ++ [(⟨t269, rdOf ByteArray.empty t265 2, t272⟩ : S37)]) t260) else (none))) else (none)) else (none))) else (none)) else (some ((⟨#[]⟩ : ByteArray), (⟨#[]⟩ : ByteArray), 0, 0, ([] : List (S37)), 0, 190))) = some (r1, r2, r3, r4, r5, r6, r7) := H
                   have A59 := a_ A590
                   clear A590
                   by_cases c60 : (t265.length : Int) = 4
                   ·rw [if_pos c60] at H
                    have c60b0 : ((t265.length : Int) == 4) = true := beq_iff_eq.mpr c60
                    have c60b1 : ((t265.length : Int) != 4) = false := bne_eq_false_iff_eq.mpr c60
                    clear c60
                    by_cases c61 : 1 < (t265.length : Int)
                    ·rw [if_pos c61] at H
                     have c61b0 : decide (1 < (t265.length : Int)) = true := decide_eq_true c61
                     have c61b1 : decide (1 < t265.length) = true := decide_eq_true (by omega)
                     clear c61
                     replace H := Option.bind_eq_some_iff.mp H
                     obtain ⟨t269, A620, H⟩ := H
                     replace H : (if 2 < (t265.length : Int) then (if 3 < (t265.length : Int) then ((cambistref19_amount.f k2 (rdOf ByteArray.empty t265 3)).bind fun t272 => (if x262004_2.length < 4398046511104 then (cambistref19_Parse.l0 k2 a0 t238 (wrap64 (x9_2 + 1)) (rdOf ByteArray.empty t242 1) (rdOf ByteArray.empty t242 2) t256 t258 (x262004_2 ++ [(⟨t269, rdOf ByteArray.empty t265 2, t272⟩ : S37)]) t260) else (none))) else (none)) else (none)) = some (r1, r2, r3, r4, r5, r6, r7) := H
                     have A62 := a_ A620
                     clear A620
                     by_cases c63 : 2 < (t265.length : Int)
                     ·rw [if_pos c63] at H
                      have c63b0 : decide (2 < (t265.length : Int)) = true := decide_eq_true c63
                      have c63b1 : decide (2 < t265.length) = true := decide_eq_true (by omega)
                      clear c63
                      by_cases c64 : 3 < (t265.length : Int)
                      ·rw [if_pos c64] at H
                       have c64b0 : decide (3 < (t265.length : Int)) = true := decide_eq_true c64
                       have c64b1 : decide (3 < t265.length) = true := decide_eq_true (by omega)
                       clear c64
                       replace H := Option.bind_eq_some_iff.mp H
                       obtain ⟨t272, A650, H⟩ := H
                       replace H : (if x262004_2.length < 4398046511104 then (cambistref19_Parse.l0 k2 a0 t238 (wrap64 (x9_2 + 1)) (rdOf ByteArray.empty t242 1) (rdOf ByteArray.empty t242 2) t256 t258 (x262004_2 ++ [(⟨t269, rdOf ByteArray.empty t265 2, t272⟩ : S37)]) t260) else (none)) = some (r1, r2, r3, r4, r5, r6, r7) := H
                       have A65 := a_ A650
                       clear A650
                       by_cases c66 : x262004_2.length < 4398046511104
                       ·rw [if_pos c66] at H
                        have LMc66 := a_ c66
                        clear c66
                        obtain ⟨y273, hy273⟩ : ∃ y_ : List (S37), y_ = (x262004_2 ++ [(⟨t269, rdOf ByteArray.empty t265 2, t272⟩ : S37)]) := ⟨_, rfl⟩
                        replace H : (cambistref19_Parse.l0 k2 a0 t238 (wrap64 (x9_2 + 1)) (rdOf ByteArray.empty t242 1) (rdOf ByteArray.empty t242 2) t256 t258 y273 t260) = some (r1, r2, r3, r4, r5, r6, r7) := by first | (rw [hy273]; with_reducible exact H) | (have H2_ := (Option.bind_some _ _).symm.trans H; rw [hy273]; with_reducible exact H2_) | (have H2_ := (Option.bind_some _ _).symm.trans H; with_reducible exact H2_) | with_reducible exact H | (rw [hy273]; exact H) | exact H
                        have Ny273 := a_ hy273
                        clear hy273
                        have H' := a_ H
                        clear H
                        have p264 : 0 ≤ (x9_2 : Int) := of_decide_eq_true z79_
                        have q264 : x9_2 < (t238.length : Int) := of_decide_eq_true z79_
                        obtain ⟨ad264, e264, hx264_0⟩ := Kd.at_string (Kd.R_reads' HO_4.out).2.2 x9_2 p264 q264
                        obtain rfl : ad241 = ad264 := (by injection e264)
                        replace p264 := eq_true p264
                        replace q264 := eq_true q264
                        try go_wp2_with (first | ((with_reducible refine gate_callee (f := 29) rfl ?_); refine goesL_ (some 78) rfl rfl Tryz.func29 z85_ rfl #[.string (rdOf ByteArray.empty t238 x9_2)] rfl z31_ ?_; (with_reducible refine (cambistref19_Words.calls k2 (rdOf ByteArray.empty t238 x9_2) t265 _ ?side1 A59.out).mono ?_); (case side1 => exact Glob.below HG.out z23_); rintro e w67 ⟨v266, rfl, ho0, hb⟩; refine ⟨_, rfl, ?_⟩; have n0_ := a_ (Kd.R_elder' z53_ (Kd.R_base ho0) hb); have n1_ := a_ (Kd.R_below z43_ hb); have n2_ := a_ (Kd.R_lower (Kd.R_new' ho0 (Kd.R_lt z53_)) (below_size z23_)); have n3_ := a_ (blk_below (g := gb237) (o := .cells #[.string x238000_2, .string x238001_2, .int .u64 x238002_2, .int .i64 x238003_2, .slice none 0 0, .int .i64 x238005_2] 25 (0, 0)) z69_ hb); have n4_ := a_ (blk_below (g := gb261) (o := .cells #[.string (rdOf ByteArray.empty t242 1), .string (rdOf ByteArray.empty t242 2), .int .u64 t256, .int .i64 t258, u262004, .int .i64 t260] 25 (0, 0)) z70_ hb); have n5_ := a_ (below_step z23_ hb); clear HO_4; clear HO_262004; clear BK237; clear BK261; clear HB; have HO_4 := n0_; have HO_262004 := n1_; have HO267 := n2_; have BK237 := n3_; have BK261 := n4_; have HB := n5_; clear n0_ n1_ n2_ n3_ n4_ n5_; (try clear hb); (try clear hb2); (try clear hk); (try clear hi); (try clear ho0); obtain ⟨Ao68, co68, eo68⟩ := Kd.R_slice HO267.out; subst eo68))
                        have n0_ := a_ (Kd.R_drew HO_4.out)
                        have n1_ := a_ (Kd.R_drew HO_262004.out)
                        have n2_ := a_ (Kd.R_drew HO267.out)
                        have n3_ := a_ (blk_drew BK237.out)
                        have n4_ := a_ (blk_drew BK261.out)
                        have n5_ := a_ (below_drew1 HB.out)
                        clear HO_4
                        clear HO_262004
                        clear HO267
                        clear BK237
                        clear BK261
                        clear HB
                        have HO_4 := n0_
                        have HO_262004 := n1_
                        have HO267 := n2_
                        have BK237 := n3_
                        have BK261 := n4_
                        have HB := n5_
                        clear n0_ n1_ n2_ n3_ n4_ n5_
                        have p268 : 0 ≤ (1 : Int) := (by omega)
                        have q268 : 1 < (t265.length : Int) := of_decide_eq_true z79_
                        obtain ⟨ad268, e268, hx268_0⟩ := Kd.at_string (Kd.R_reads' HO267.out).2.2 1 p268 q268
                        cases e268
                        (try simp only [show (1 : Int).toNat = 1 from rfl, Nat.reduceMul, Nat.reduceEqDiff, Go.Addr.add, ↓reduceIte] at hx268_0)
                        have qi268 : (1 < t265.length) = True := eq_true (by omega)
                        (try rw [show ((1 : Int)).toNat = 1 from rfl] at hx268_0)
                        replace p268 := eq_true p268
                        replace q268 := eq_true q268
                        have p270 : 0 ≤ (2 : Int) := (by omega)
                        have q270 : 2 < (t265.length : Int) := of_decide_eq_true z79_
                        obtain ⟨ad270, e270, hx270_0⟩ := Kd.at_string (Kd.R_reads' HO267.out).2.2 2 p270 q270
                        obtain rfl : ad268 = ad270 := (by injection e270)
                        (try simp only [show (2 : Int).toNat = 2 from rfl, Nat.reduceMul, Nat.reduceEqDiff, Go.Addr.add, ↓reduceIte] at hx270_0)
                        have qi270 : (2 < t265.length) = True := eq_true (by omega)
                        (try rw [show ((2 : Int)).toNat = 2 from rfl] at hx270_0)
                        replace p270 := eq_true p270
                        replace q270 := eq_true q270
                        have p271 : 0 ≤ (3 : Int) := (by omega)
                        have q271 : 3 < (t265.length : Int) := of_decide_eq_true z79_
                        obtain ⟨ad271, e271, hx271_0⟩ := Kd.at_string (Kd.R_reads' HO267.out).2.2 3 p271 q271
                        obtain rfl : ad268 = ad271 := (by injection e271)
                        (try simp only [show (3 : Int).toNat = 3 from rfl, Nat.reduceMul, Nat.reduceEqDiff, Go.Addr.add, ↓reduceIte] at hx271_0)
                        have qi271 : (3 < t265.length) = True := eq_true (by omega)
                        (try rw [show ((3 : Int)).toNat = 3 from rfl] at hx271_0)
                        replace p271 := eq_true p271
                        replace q271 := eq_true q271
                        refine start_ (n := 18) (S := fun w' => w'.cell? ⟨gb261, 0, none⟩ = some (.string (rdOf ByteArray.empty t242 1)) ∧ w'.cell? ⟨gb261, 1, none⟩ = some (.string (rdOf ByteArray.empty t242 2)) ∧ w'.cell? ⟨gb261, 2, none⟩ = some (.int .u64 t256) ∧ w'.cell? ⟨gb261, 3, none⟩ = some (.int .i64 t258) ∧ w'.cell? ⟨gb261, 4, none⟩ = some (u262004) ∧ w'.cell? ⟨gb261, 5, none⟩ = some (.int .i64 t260) ∧ w'.cell? ⟨ad268.block, ad268.off + 1, none⟩ = some (.string (rdOf ByteArray.empty t265 1)) ∧ w'.cell? ⟨ad268.block, ad268.off + 2, none⟩ = some (.string (rdOf ByteArray.empty t265 2)) ∧ w'.cell? ⟨ad268.block, ad268.off + 3, none⟩ = some (.string (rdOf ByteArray.empty t265 3))) (ds := [15, 17]) #[false, false, false, false, false, false, false, false, false, false, false, false, false, false, false, false, false, false] z85_ rfl rfl ⟨(blk_cell BK261.out 0).trans rfl, (blk_cell BK261.out 1).trans rfl, (blk_cell BK261.out 2).trans rfl, (blk_cell BK261.out 3).trans rfl, (blk_cell BK261.out 4).trans rfl, (blk_cell BK261.out 5).trans rfl, hx268_0, hx270_0, hx271_0⟩ (fun hHeld => ?_); refine with_tabW cambistref19_Parse.tab16 cambistref19_Parse.bits16 (fun HT_ HW_ => ?_)
                        generalize w67.drew = w69 at HO_4 HO_262004 HO267 BK237 BK261 HB hx268_0 hx270_0 hx271_0 hHeld ⊢
                        refine pure_ (i := 0) (N := some 83) (v := ?_) (a' := ?_) (fl_ 18 1) rfl rfl (any_of HT_.out z85_) (fun _ _ _ h => h) (Or.inl ⟨by rfl, ?_⟩) ?_ ?_
                        rotate_left
                        ·intro w'
                         go_simp
                         with_reducible rfl
                        rotate_left
                        ·simp only [Act.put, sT_, s0_, sS_, i64_w, i32_w]
                         rfl
                        refine pure_ (i := 2) (N := some 85) (v := ?_) (a' := ?_) (fl_ 18 5) rfl rfl (any_of HT_.out z85_) (fun _ _ _ h => h) (Or.inl ⟨by rfl, ?_⟩) ?_ ?_
                        rotate_left
                        ·intro w'
                         go_simp
                         with_reducible rfl
                        rotate_left
                        ·simp only [Act.put, sT_, s0_, sS_, i64_w, i32_w]
                         rfl
                        refine pure_ (i := 3) (N := some 86) (v := ?_) (a' := ?_) (fl_ 18 13) rfl rfl (any_of HT_.out z85_) (fun _ _ _ h => h) (Or.inl ⟨by rfl, ?_⟩) ?_ ?_
                        rotate_left
                        ·intro w'
                         go_simp
                         with_reducible rfl
                        rotate_left
                        ·simp only [Act.put, sT_, s0_, sS_, i64_w, i32_w]
                         rfl
                        refine pure_ (i := 6) (N := some 89) (v := ?_) (a' := ?_) (fl_ 18 77) rfl rfl (any_of HT_.out z85_) (fun _ _ _ h => h) (Or.inl ⟨by rfl, ?_⟩) ?_ ?_
                        rotate_left
                        ·intro w'
                         go_simp
                         with_reducible rfl
                        rotate_left
                        ·simp only [Act.put, sT_, s0_, sS_, i64_w, i32_w]
                         rfl
                        refine pure_ (i := 7) (N := some 90) (v := ?_) (a' := ?_) (fl_ 18 205) rfl rfl (any_of HT_.out z85_) (fun _ _ _ h => h) (Or.inl ⟨by rfl, ?_⟩) ?_ ?_
                        rotate_left
                        ·intro w'
                         go_simp
                         with_reducible rfl
                        rotate_left
                        ·simp only [Act.put, sT_, s0_, sS_, i64_w, i32_w]
                         rfl
                        refine pure_ (i := 9) (N := some 92) (v := ?_) (a' := ?_) (fl_ 18 717) rfl rfl (any_of HT_.out z85_) (fun _ _ _ h => h) (Or.inl ⟨by rfl, ?_⟩) ?_ ?_
                        rotate_left
                        ·intro w'
                         go_simp
                         with_reducible rfl
                        rotate_left
                        ·simp only [Act.put, sT_, s0_, sS_, i64_w, i32_w]
                         rfl
                        refine pure_ (i := 10) (N := some 93) (v := ?_) (a' := ?_) (fl_ 18 1741) rfl rfl (any_of HT_.out z85_) (fun _ _ _ h => h) (Or.inl ⟨by rfl, ?_⟩) ?_ ?_
                        rotate_left
                        ·intro w'
                         go_simp
                         with_reducible rfl
                        rotate_left
                        ·simp only [Act.put, sT_, s0_, sS_, i64_w, i32_w]
                         rfl
                        refine take_ (i := 1) (N := some 84) (v := ?_) (a' := ?_) (fl_ 18 1743) rfl rfl (take_ofW HT_.out HW_.out z85_) (fun _ _ _ h => h) (Or.inl ⟨by rfl, ?_⟩) hHeld ?_ ?_
                        rotate_left
                        ·rintro w' ⟨s0, s1, s2, s3, s4, s5, s6, s7, s8⟩
                         go_simp
                         with_reducible rfl
                        rotate_left
                        ·simp only [Act.put, sT_, s0_, sS_, i64_w, i32_w]
                         rfl
                        refine take_ (i := 4) (N := some 87) (v := ?_) (a' := ?_) (fl_ 18 1759) rfl rfl (take_ofW HT_.out HW_.out z85_) (fun _ _ _ h => h) (Or.inl ⟨by rfl, ?_⟩) hHeld ?_ ?_
                        rotate_left
                        ·rintro w' ⟨s0, s1, s2, s3, s4, s5, s6, s7, s8⟩
                         go_simp
                         with_reducible rfl
                        rotate_left
                        ·simp only [Act.put, sT_, s0_, sS_, i64_w, i32_w]
                         rfl
                        refine take_ (i := 8) (N := some 91) (v := ?_) (a' := ?_) (fl_ 18 2015) rfl rfl (take_ofW HT_.out HW_.out z85_) (fun _ _ _ h => h) (Or.inl ⟨by rfl, ?_⟩) hHeld ?_ ?_
                        rotate_left
                        ·rintro w' ⟨s0, s1, s2, s3, s4, s5, s6, s7, s8⟩
                         go_simp
                         with_reducible rfl
                        rotate_left
                        ·simp only [Act.put, sT_, s0_, sS_, i64_w, i32_w]
                         rfl
                        refine take_ (i := 11) (N := some 94) (v := ?_) (a' := ?_) (fl_ 18 4063) rfl rfl (take_ofW HT_.out HW_.out z85_) (fun _ _ _ h => h) (Or.inl ⟨by rfl, ?_⟩) hHeld ?_ ?_
                        rotate_left
                        ·rintro w' ⟨s0, s1, s2, s3, s4, s5, s6, s7, s8⟩
                         go_simp
                         with_reducible rfl
                        rotate_left
                        ·simp only [Act.put, sT_, s0_, sS_, i64_w, i32_w]
                         rfl
                        refine one_ (i := 5) (N := some 88) (fl_ 18 4095) rfl rfl (one_of HT_.out z85_) (by decide) (fun K hK => ?_)
                        refine goes_ Tryz.func30 z85_ rfl #[.string (rdOf ByteArray.empty t265 1)] (by rfl) rfl rfl z31_ ?_
                        with_reducible refine (cambistref19_Unsigned.calls k2 (rdOf ByteArray.empty t265 1) t269 _ ?side1 A62.out).mono ?_
                        (case side1 => exact Glob.below HG.out z23_)
                        rintro e w70 ⟨rfl, hb⟩
                        have HS6_ := (hb.cell (World.block_lt_of_cell? _ _ (hHeld.2.2.2.2.2.2.1))).trans (hHeld.2.2.2.2.2.2.1)
                        have HS7_ := (hb.cell (World.block_lt_of_cell? _ _ (hHeld.2.2.2.2.2.2.2.1))).trans (hHeld.2.2.2.2.2.2.2.1)
                        have HS8_ := (hb.cell (World.block_lt_of_cell? _ _ (hHeld.2.2.2.2.2.2.2.2))).trans (hHeld.2.2.2.2.2.2.2.2)
                        refine ⟨_, rfl, ?_⟩
                        have n0_ := a_ (Kd.R_below z53_ hb)
                        have n1_ := a_ (Kd.R_below z43_ hb)
                        have n2_ := a_ (Kd.R_below z50_ hb)
                        have n3_ := a_ (blk_below (g := gb237) (o := .cells #[.string x238000_2, .string x238001_2, .int .u64 x238002_2, .int .i64 x238003_2, .slice none 0 0, .int .i64 x238005_2] 25 (0, 0)) z69_ hb)
                        have n4_ := a_ (blk_below (g := gb261) (o := .cells #[.string (rdOf ByteArray.empty t242 1), .string (rdOf ByteArray.empty t242 2), .int .u64 t256, .int .i64 t258, u262004, .int .i64 t260] 25 (0, 0)) z70_ hb)
                        have n5_ := a_ (below_step z23_ hb)
                        clear HO_4
                        clear HO_262004
                        clear HO267
                        clear BK237
                        clear BK261
                        clear HB
                        have HO_4 := n0_
                        have HO_262004 := n1_
                        have HO267 := n2_
                        have BK237 := n3_
                        have BK261 := n4_
                        have HB := n5_
                        clear n0_ n1_ n2_ n3_ n4_ n5_
                        (try clear hb)
                        (try clear hb2)
                        (try clear hk)
                        (try clear hi)
                        refine hK.out _ _ ⟨(blk_cell BK261.out 0).trans rfl, (blk_cell BK261.out 1).trans rfl, (blk_cell BK261.out 2).trans rfl, (blk_cell BK261.out 3).trans rfl, (blk_cell BK261.out 4).trans rfl, (blk_cell BK261.out 5).trans rfl, HS6_, HS7_, HS8_⟩ (fun hHeld => ?_)
                        clear hK K
                        refine norm_ (a' := ?_) ?_ ?_
                        rotate_left
                        ·show Act.put _ (some 88) _ = _
                         simp only [Act.put, sT_, s0_, sS_, i64_w, i32_w]
                         rfl
                        refine one_ (i := 12) (N := some 95) (fl_ 18 8191) rfl rfl (one_of HT_.out z85_) (by decide) (fun K hK => ?_)
                        refine goes_ Tryz.func31 z85_ rfl #[.string (rdOf ByteArray.empty t265 3)] (by rfl) rfl rfl z31_ ?_
                        with_reducible refine (cambistref19_amount.calls k2 (rdOf ByteArray.empty t265 3) t272 _ ?side1 A65.out).mono ?_
                        (case side1 => exact Glob.below HG.out z23_)
                        rintro e w71 ⟨rfl, hb⟩
                        have HS6_ := (hb.cell (World.block_lt_of_cell? _ _ (hHeld.2.2.2.2.2.2.1))).trans (hHeld.2.2.2.2.2.2.1)
                        have HS7_ := (hb.cell (World.block_lt_of_cell? _ _ (hHeld.2.2.2.2.2.2.2.1))).trans (hHeld.2.2.2.2.2.2.2.1)
                        have HS8_ := (hb.cell (World.block_lt_of_cell? _ _ (hHeld.2.2.2.2.2.2.2.2))).trans (hHeld.2.2.2.2.2.2.2.2)
                        refine ⟨_, rfl, ?_⟩
                        have n0_ := a_ (Kd.R_below z53_ hb)
                        have n1_ := a_ (Kd.R_below z43_ hb)
                        have n2_ := a_ (Kd.R_below z50_ hb)
                        have n3_ := a_ (blk_below (g := gb237) (o := .cells #[.string x238000_2, .string x238001_2, .int .u64 x238002_2, .int .i64 x238003_2, .slice none 0 0, .int .i64 x238005_2] 25 (0, 0)) z69_ hb)
                        have n4_ := a_ (blk_below (g := gb261) (o := .cells #[.string (rdOf ByteArray.empty t242 1), .string (rdOf ByteArray.empty t242 2), .int .u64 t256, .int .i64 t258, u262004, .int .i64 t260] 25 (0, 0)) z70_ hb)
                        have n5_ := a_ (below_step z23_ hb)
                        clear HO_4
                        clear HO_262004
                        clear HO267
                        clear BK237
                        clear BK261
                        clear HB
                        have HO_4 := n0_
                        have HO_262004 := n1_
                        have HO267 := n2_
                        have BK237 := n3_
                        have BK261 := n4_
                        have HB := n5_
                        clear n0_ n1_ n2_ n3_ n4_ n5_
                        (try clear hb)
                        (try clear hb2)
                        (try clear hk)
                        (try clear hi)
                        refine hK.out _ _ ⟨(blk_cell BK261.out 0).trans rfl, (blk_cell BK261.out 1).trans rfl, (blk_cell BK261.out 2).trans rfl, (blk_cell BK261.out 3).trans rfl, (blk_cell BK261.out 4).trans rfl, (blk_cell BK261.out 5).trans rfl, HS6_, HS7_, HS8_⟩ (fun hHeld => ?_)
                        clear hK K
                        refine norm_ (a' := ?_) ?_ ?_
                        rotate_left
                        ·show Act.put _ (some 95) _ = _
                         simp only [Act.put, sT_, s0_, sS_, i64_w, i32_w]
                         rfl
                        refine pure_ (i := 13) (N := some 96) (v := ?_) (a' := ?_) (fl_ 18 16383) rfl rfl (any_of HT_.out z85_) (fun _ _ _ h => h) (Or.inl ⟨by rfl, ?_⟩) ?_ ?_
                        rotate_left
                        ·intro w'
                         go_simp
                         with_reducible rfl
                        rotate_left
                        ·simp only [Act.put, sT_, s0_, sS_, i64_w, i32_w]
                         rfl
                        refine one_ (i := 14) (N := some 97) (fl_ 18 32767) rfl rfl (one_of HT_.out z85_) (by decide) (fun K hK => ?_)
                        refine value_ (w1 := ?_) (v := ?_) (by rfl) rfl ?_ ?_
                        rotate_left 2
                        ·go_simp
                         constructor
                         ·rfl
                         ·rfl
                        refine hK.out _ _ ⟨(blk_cell (blk_alloc BK261.out _) 0).trans rfl, (blk_cell (blk_alloc BK261.out _) 1).trans rfl, (blk_cell (blk_alloc BK261.out _) 2).trans rfl, (blk_cell (blk_alloc BK261.out _) 3).trans rfl, (blk_cell (blk_alloc BK261.out _) 4).trans rfl, (blk_cell (blk_alloc BK261.out _) 5).trans rfl, (World.cell?_alloc_lt _ _ _ (World.block_lt_of_cell? _ _ (hHeld.2.2.2.2.2.2.1))).trans (hHeld.2.2.2.2.2.2.1), (World.cell?_alloc_lt _ _ _ (World.block_lt_of_cell? _ _ (hHeld.2.2.2.2.2.2.2.1))).trans (hHeld.2.2.2.2.2.2.2.1), (World.cell?_alloc_lt _ _ _ (World.block_lt_of_cell? _ _ (hHeld.2.2.2.2.2.2.2.2))).trans (hHeld.2.2.2.2.2.2.2.2)⟩ (fun hHeld => ?_)
                        clear hK K
                        refine norm_ (a' := ?_) ?_ ?_
                        rotate_left
                        ·show Act.put _ (some 97) _ = _
                         simp only [Act.put, sT_, s0_, sS_, i64_w, i32_w]
                         rfl
                        refine last_ (i := 15) (N := some 98) #[true, true, true, true, true, true, true, true, true, true, true, true, true, true, true, true, false, false] rfl rfl (one_of HT_.out z85_) (by decide) (fun K hK => ?_)
                        refine Kd.R_append_step k37 (w0 := w) w.heap.size (by rfl) (.tmp 84) (.tmp 97) 23 37 (.agg #[(.int .u64 0), (.string ⟨#[]⟩), (.int .i64 0)]) 32 rfl Tryz.underlying23 info37 rfl (by decide) (by omega) u262004 x262004_2 (⟨t269, rdOf ByteArray.empty t265 2, t272⟩ : S37) [.int .u64 t269, .string (rdOf ByteArray.empty t265 2), .int .i64 t272] (fun _ => True) (fun _ => False) rfl rfl ?aP (fun _ hk => hk.elim) ?aF ?aO ?aB ?aS ?aL ?_
                        (case aP => exact k37_mkM _ _ _ (⟨t269, rdOf ByteArray.empty t265 2, t272⟩ : S37))
                        (case aB => exact z23_)
                        (case aF => exact (fun _ _ => trivial))
                        (case aO => exact z43_)
                        (case aS => exact (below_size z23_))
                        (case aL => have := LMc66.out; omega)
                        intro v274 w72 ho hb hg hat
                        rw [← Ny273.out] at ho
                        have n0_ := a_ (Kd.R_over' z53_ (Kd.R_typed z43_) (by decide) hg)
                        have n1_ := a_ (blk_grown (g := gb237) (o := .cells #[.string x238000_2, .string x238001_2, .int .u64 x238002_2, .int .i64 x238003_2, .slice none 0 0, .int .i64 x238005_2] 25 (0, 0)) z69_ hg (Kd.R_ne HO_262004.out BK237.out (by decide)))
                        have n2_ := a_ (blk_grown (g := gb261) (o := .cells #[.string (rdOf ByteArray.empty t242 1), .string (rdOf ByteArray.empty t242 2), .int .u64 t256, .int .i64 t258, u262004, .int .i64 t260] 25 (0, 0)) z70_ hg (Kd.R_ne HO_262004.out BK261.out (by decide)))
                        have n3_ := a_ (Kd.R_over' z50_ (Kd.R_typed z43_) (by decide) hg)
                        have n4_ := a_ (hb)
                        have n5_ := a_ (ho)
                        clear HO_4
                        clear BK237
                        clear BK261
                        clear HO267
                        clear HB
                        clear HO_262004
                        have HO_4 := n0_
                        have BK237 := n1_
                        have BK261 := n2_
                        have HO267 := n3_
                        have HB := n4_
                        have HO275 := n5_
                        clear n0_ n1_ n2_ n3_ n4_ n5_
                        clear ho hb hg hat
                        obtain ⟨Ao73, co73, eo73⟩ := Kd.R_slice HO275.out
                        (first | subst eo73 | (injection eo73 with f1_ f2_ f3_; have f4_ := f1_.symm; have f5_ := f3_.symm; clear f1_ f2_ f3_; subst f4_; subst f5_))
                        refine hK.out _ _ ?_
                        clear hK K
                        refine norm_ (a' := ?_) ?_ ?_
                        rotate_left
                        ·show Act.put _ (some 98) _ = _
                         simp only [Act.put, sT_, s0_, sS_, i64_w, i32_w]
                         rfl
                        refine pure_ (i := 16) (N := some 99) (v := ?_) (a' := ?_) (fl_ 18 131071) rfl rfl (any_of HT_.out z85_) (fun _ _ _ h => h) (Or.inl ⟨by rfl, ?_⟩) ?_ ?_
                        rotate_left
                        ·intro w'
                         go_simp
                         with_reducible rfl
                        rotate_left
                        ·simp only [Act.put, sT_, s0_, sS_, i64_w, i32_w]
                         rfl
                        refine last_ (i := 17) (N := none) #[true, true, true, true, true, true, true, true, true, true, true, true, true, true, true, true, true, true] rfl rfl (one_of HT_.out z85_) (by decide) (fun K hK => ?_)
                        have hs74 : w72.cell? ⟨gb261, 4, none⟩ = some (u262004) := (blk_cell BK261.out 4).trans rfl
                        have hfs74 := blk_frozen BK261.out 4
                        have hns74_0 := NB237_261.out
                        have hms74_0 := NB261_237.out
                        refine skip_ (w1 := ?_) (by rfl) rfl ?_ ?_
                        rotate_left
                        ·go_simp
                         rfl
                        refine hK.out _ _ ?_
                        clear hK K
                        refine done_ (done_of HT_.out z85_) ?_
                        try go_wp2
                        go_roundg k2
                        case measure => have := HJ15.out; have := HK2.out; omega
                        case rel => exact ⟨(wrap64 (x9_2 + 1)), (x238000_2), (x238001_2), (x238002_2), (x238003_2), (x238005_2), (y273), (.slice Ao73 y273.length co73), z80_, H', ⟨by have := HJ15.out; have := HK2.out; omega⟩, ⟨by (with_reducible repeat (first | apply Kd.R_alloc | apply Kd.R_drewN | apply Kd.R_drew)); exact Kd.R_mono (Kd.R_far (p := ⟨gb261, 4, none⟩) (Kd.R_types HO_4.out BK261.out (by decide)) (fun _ hk => hk.2) (.slice Ao73 y273.length co73)) (fun _ hk => trivial)⟩, ⟨by (with_reducible repeat (first | apply Kd.R_alloc | apply Kd.R_drewN | apply Kd.R_drew)); exact Kd.R_mono (Kd.R_far (p := ⟨gb261, 4, none⟩) (Kd.R_types HO275.out BK261.out (by decide)) (fun _ hk => hk.2) (.slice Ao73 y273.length co73)) (fun _ hk => trivial)⟩, ⟨by (with_reducible repeat (first | refine kN_ ?_ _ | refine kD_ ?_ | refine kA_ ?_ _)); refine blk_far ?_ NB237_261.out _; (with_reducible repeat (first | refine kN_ ?_ _ | refine kD_ ?_ | refine kA_ ?_ _)); exact BK237.out⟩, ⟨by (with_reducible repeat (first | refine kN_ ?_ _ | refine kD_ ?_ | refine kA_ ?_ _)); refine blk_put (cs := #[.string (rdOf ByteArray.empty t242 1), .string (rdOf ByteArray.empty t242 2), .int .u64 t256, .int .i64 t258, u262004, .int .i64 t260]) ?_ 4 _ rfl; (with_reducible repeat (first | refine kN_ ?_ _ | refine kD_ ?_ | refine kA_ ?_ _)); exact BK261.out⟩, ⟨z23_⟩⟩
                       ·rw [if_neg c66] at H
                        exact absurd H (by simp)
                      ·rw [if_neg c64] at H
                       exact absurd H (by simp)
                     ·rw [if_neg c63] at H
                      exact absurd H (by simp)
                    ·rw [if_neg c61] at H
                     exact absurd H (by simp)
                   ·rw [if_neg c60] at H
                    have c60b0 : ((t265.length : Int) == 4) = false := beq_eq_false_iff_ne.mpr c60
                    have c60b1 : ((t265.length : Int) != 4) = true := bne_iff_ne.mpr c60
                    simp only [Option.some.injEq, Prod.mk.injEq] at H
                    obtain ⟨rfl, rfl, rfl, rfl, rfl, rfl, rfl⟩ := H
                    have p264 : 0 ≤ (x9_2 : Int) := of_decide_eq_true z79_
                    have q264 : x9_2 < (t238.length : Int) := of_decide_eq_true z79_
                    obtain ⟨ad264, e264, hx264_0⟩ := Kd.at_string (Kd.R_reads' HO_4.out).2.2 x9_2 p264 q264
                    obtain rfl : ad241 = ad264 := (by injection e264)
                    replace p264 := eq_true p264
                    replace q264 := eq_true q264
                    go_wp2_with (first | ((with_reducible refine gate_callee (f := 29) rfl ?_); refine goesL_ (some 78) rfl rfl Tryz.func29 z85_ rfl #[.string (rdOf ByteArray.empty t238 x9_2)] rfl z31_ ?_; (with_reducible refine (cambistref19_Words.calls k2 (rdOf ByteArray.empty t238 x9_2) t265 _ ?side1 A59.out).mono ?_); (case side1 => exact Glob.below HG.out z23_); rintro e w75 ⟨v266, rfl, ho0, hb⟩; refine ⟨_, rfl, ?_⟩; have n0_ := a_ (Kd.R_elder' z53_ (Kd.R_base ho0) hb); have n1_ := a_ (Kd.R_below z43_ hb); have n2_ := a_ (Kd.R_lower (Kd.R_new' ho0 (Kd.R_lt z53_)) (below_size z23_)); have n3_ := a_ (blk_below (g := gb237) (o := .cells #[.string x238000_2, .string x238001_2, .int .u64 x238002_2, .int .i64 x238003_2, .slice none 0 0, .int .i64 x238005_2] 25 (0, 0)) z69_ hb); have n4_ := a_ (blk_below (g := gb261) (o := .cells #[.string (rdOf ByteArray.empty t242 1), .string (rdOf ByteArray.empty t242 2), .int .u64 t256, .int .i64 t258, u262004, .int .i64 t260] 25 (0, 0)) z70_ hb); have n5_ := a_ (below_step z23_ hb); clear HO_4; clear HO_262004; clear BK237; clear BK261; clear HB; have HO_4 := n0_; have HO_262004 := n1_; have HO267 := n2_; have BK237 := n3_; have BK261 := n4_; have HB := n5_; clear n0_ n1_ n2_ n3_ n4_ n5_; (try clear hb); (try clear hb2); (try clear hk); (try clear hi); (try clear ho0); obtain ⟨Ao76, co76, eo76⟩ := Kd.R_slice HO267.out; subst eo76; have hnb77 := NB237_261.out; have hnc77 := NB261_237.out; have hcz78_0 : w75.cell? ⟨gb237, 0, none⟩ = some (.string x238000_2) := (blk_cell BK237.out 0).trans rfl; have hcz78_1 : w75.cell? ⟨gb237, 1, none⟩ = some (.string x238001_2) := (blk_cell BK237.out 1).trans rfl; have hcz78_2 : w75.cell? ⟨gb237, 2, none⟩ = some (.int .u64 x238002_2) := (blk_cell BK237.out 2).trans rfl; have hcz78_3 : w75.cell? ⟨gb237, 3, none⟩ = some (.int .i64 x238003_2) := (blk_cell BK237.out 3).trans rfl; have hcz78_4 : w75.cell? ⟨gb237, 4, none⟩ = some (.slice none 0 0) := (blk_cell BK237.out 4).trans rfl; have hcz78_5 : w75.cell? ⟨gb237, 5, none⟩ = some (.int .i64 x238005_2) := (blk_cell BK237.out 5).trans rfl; have hfz78_0 := blk_frozen BK237.out 0; have hfz78_1 := blk_frozen BK237.out 1; have hfz78_2 := blk_frozen BK237.out 2; have hfz78_3 := blk_frozen BK237.out 3; have hfz78_4 := blk_frozen BK237.out 4; have hfz78_5 := blk_frozen BK237.out 5))
                    have k0_ := blk_put BK237.out 0 (.string (⟨#[]⟩ : ByteArray)) (cs' := #[.string (⟨#[]⟩ : ByteArray), .string x238001_2, .int .u64 x238002_2, .int .i64 x238003_2, .slice none 0 0, .int .i64 x238005_2]) rfl
                    have k1_ := blk_put k0_ 1 (.string (⟨#[]⟩ : ByteArray)) (cs' := #[.string (⟨#[]⟩ : ByteArray), .string (⟨#[]⟩ : ByteArray), .int .u64 x238002_2, .int .i64 x238003_2, .slice none 0 0, .int .i64 x238005_2]) rfl
                    have k2_ := blk_put k1_ 2 (.int .u64 0) (cs' := #[.string (⟨#[]⟩ : ByteArray), .string (⟨#[]⟩ : ByteArray), .int .u64 0, .int .i64 x238003_2, .slice none 0 0, .int .i64 x238005_2]) rfl
                    have k3_ := blk_put k2_ 3 (.int .i64 0) (cs' := #[.string (⟨#[]⟩ : ByteArray), .string (⟨#[]⟩ : ByteArray), .int .u64 0, .int .i64 0, .slice none 0 0, .int .i64 x238005_2]) rfl
                    have k4_ := blk_put k3_ 4 (.slice none 0 0) (cs' := #[.string (⟨#[]⟩ : ByteArray), .string (⟨#[]⟩ : ByteArray), .int .u64 0, .int .i64 0, .slice none 0 0, .int .i64 x238005_2]) rfl
                    have k5_ := blk_put k4_ 5 (.int .i64 0) (cs' := #[.string (⟨#[]⟩ : ByteArray), .string (⟨#[]⟩ : ByteArray), .int .u64 0, .int .i64 0, .slice none 0 0, .int .i64 0]) rfl
                    refine bodyPost_ret (results_ct rfl _ _ gb237 25 #[.string (⟨#[]⟩ : ByteArray), .string (⟨#[]⟩ : ByteArray), .int .u64 0, .int .i64 0, .slice none 0 0, .int .i64 0] (0, 0) _ rfl k5_ Tryz.underlying25 rfl z85_) rfl ?_
                    exact ⟨_, z15_, z30_, z23_⟩
                  ·rw [if_neg c58] at H
                   exact absurd H (by simp)
                 ·rw [if_neg c57] at H
                  exact absurd H (by simp)
                ·rw [if_neg c56] at H
                 have c56b0 : decide (x9_2 < (wrap64 ((t238.length : Int) - 1))) = false := decide_eq_false c56
                 rw [hji12] at c56b0
                 clear c56
                 replace H := Option.bind_eq_some_iff.mp H
                 obtain ⟨⟨t262, t263⟩, A790, H⟩ := H
                 replace H : (if t263 = 0 then (if t262.toList = a0.toList then (some ((rdOf ByteArray.empty t242 1), (rdOf ByteArray.empty t242 2), t256, t258, x262004_2, t260, 0)) else (some ((⟨#[]⟩ : ByteArray), (⟨#[]⟩ : ByteArray), 0, 0, ([] : List (S37)), 0, 190))) else (some ((⟨#[]⟩ : ByteArray), (⟨#[]⟩ : ByteArray), 0, 0, ([] : List (S37)), 0, 190))) = some (r1, r2, r3, r4, r5, r6, r7) := H
                 have A79 := a_ A790
                 clear A790
                 by_cases c80 : t263 = 0
                 ·rw [if_pos c80] at H
                  have c80b0 : (t263 == 0) = true := beq_iff_eq.mpr c80
                  have c80b1 : (t263 != 0) = false := bne_eq_false_iff_eq.mpr c80
                  clear c80
                  by_cases c81 : t262.toList = a0.toList
                  ·rw [if_pos c81] at H
                   have c81b0 : (t262.toList == a0.toList) = true := beq_iff_eq.mpr c81
                   have c81b1 : (t262.toList != a0.toList) = false := bne_eq_false_iff_eq.mpr c81
                   clear c81
                   simp only [Option.some.injEq, Prod.mk.injEq] at H
                   obtain ⟨rfl, rfl, rfl, rfl, rfl, rfl, rfl⟩ := H
                   have hnb82 := NB261_237.out
                   have hnc82 := NB237_261.out
                   have hcz83_0 : wr.cell? ⟨gb261, 0, none⟩ = some (.string (rdOf ByteArray.empty t242 1)) := (blk_cell BK261.out 0).trans rfl
                   have hcz83_1 : wr.cell? ⟨gb261, 1, none⟩ = some (.string (rdOf ByteArray.empty t242 2)) := (blk_cell BK261.out 1).trans rfl
                   have hcz83_2 : wr.cell? ⟨gb261, 2, none⟩ = some (.int .u64 t256) := (blk_cell BK261.out 2).trans rfl
                   have hcz83_3 : wr.cell? ⟨gb261, 3, none⟩ = some (.int .i64 t258) := (blk_cell BK261.out 3).trans rfl
                   have hcz83_4 : wr.cell? ⟨gb261, 4, none⟩ = some (u262004) := (blk_cell BK261.out 4).trans rfl
                   have hcz83_5 : wr.cell? ⟨gb261, 5, none⟩ = some (.int .i64 t260) := (blk_cell BK261.out 5).trans rfl
                   have hfz83_0 := blk_frozen BK261.out 0
                   have hfz83_1 := blk_frozen BK261.out 1
                   have hfz83_2 := blk_frozen BK261.out 2
                   have hfz83_3 := blk_frozen BK261.out 3
                   have hfz83_4 := blk_frozen BK261.out 4
                   have hfz83_5 := blk_frozen BK261.out 5
                   obtain ⟨Ao84, co84, eo84⟩ := Kd.R_slice HO_262004.out
                   subst eo84
                   go_wp2_with (first | ((with_reducible refine gate_callee (f := 7) rfl ?_); refine goesL_ (some 102) rfl rfl Tryz.func7 z85_ rfl #[.agg #[.string (rdOf ByteArray.empty t242 1), .string (rdOf ByteArray.empty t242 2), .int .u64 t256, .int .i64 t258, .slice Ao84 x262004_2.length co84, .int .i64 t260]] rfl z31_ ?_; (with_reducible refine (cambistref19_Text.calls k2 (rdOf ByteArray.empty t242 1) (rdOf ByteArray.empty t242 2) t256 t258 _ _ x262004_2 t260 t262 t263 _ ?side1 ?side2 ?side3 A79.out).mono ?_); (case side1 => exact Glob.below HG.out z23_); (case side2 => repeat (first | exact (Kd.R_reads' HO_262004.out).2.2 | (with_reducible refine Kd.C_alloc ?_ _) | (with_reducible refine Kd.C_drewN ?_ _) | (with_reducible refine Kd.C_drew ?_))); (case side3 => exact (Kd.R_reads' HO_262004.out).2.1); rintro e w85 ⟨rfl, hb⟩; refine ⟨_, rfl, ?_⟩; have n0_ := a_ (Kd.R_below z53_ hb); have n1_ := a_ (Kd.R_below z43_ hb); have n2_ := a_ (blk_below (g := gb237) (o := .cells #[.string x238000_2, .string x238001_2, .int .u64 x238002_2, .int .i64 x238003_2, .slice none 0 0, .int .i64 x238005_2] 25 (0, 0)) z69_ hb); have n3_ := a_ (blk_below (g := gb261) (o := .cells #[.string (rdOf ByteArray.empty t242 1), .string (rdOf ByteArray.empty t242 2), .int .u64 t256, .int .i64 t258, .slice Ao84 x262004_2.length co84, .int .i64 t260] 25 (0, 0)) z70_ hb); have n4_ := a_ (below_step z23_ hb); clear HO_4; clear HO_262004; clear BK237; clear BK261; clear HB; have HO_4 := n0_; have HO_262004 := n1_; have BK237 := n2_; have BK261 := n3_; have HB := n4_; clear n0_ n1_ n2_ n3_ n4_; (try clear hb); (try clear hb2); (try clear hk); (try clear hi); have hcz86_0 : w85.cell? ⟨gb261, 0, none⟩ = some (.string (rdOf ByteArray.empty t242 1)) := (blk_cell BK261.out 0).trans rfl; have hcz86_1 : w85.cell? ⟨gb261, 1, none⟩ = some (.string (rdOf ByteArray.empty t242 2)) := (blk_cell BK261.out 1).trans rfl; have hcz86_2 : w85.cell? ⟨gb261, 2, none⟩ = some (.int .u64 t256) := (blk_cell BK261.out 2).trans rfl; have hcz86_3 : w85.cell? ⟨gb261, 3, none⟩ = some (.int .i64 t258) := (blk_cell BK261.out 3).trans rfl; have hcz86_4 : w85.cell? ⟨gb261, 4, none⟩ = some (.slice Ao84 x262004_2.length co84) := (blk_cell BK261.out 4).trans rfl; have hcz86_5 : w85.cell? ⟨gb261, 5, none⟩ = some (.int .i64 t260) := (blk_cell BK261.out 5).trans rfl; have hfz86_0 := blk_frozen BK261.out 0; have hfz86_1 := blk_frozen BK261.out 1; have hfz86_2 := blk_frozen BK261.out 2; have hfz86_3 := blk_frozen BK261.out 3; have hfz86_4 := blk_frozen BK261.out 4; have hfz86_5 := blk_frozen BK261.out 5; have hcz87_0 : w85.cell? ⟨gb237, 0, none⟩ = some (.string x238000_2) := (blk_cell BK237.out 0).trans rfl; have hcz87_1 : w85.cell? ⟨gb237, 1, none⟩ = some (.string x238001_2) := (blk_cell BK237.out 1).trans rfl; have hcz87_2 : w85.cell? ⟨gb237, 2, none⟩ = some (.int .u64 x238002_2) := (blk_cell BK237.out 2).trans rfl; have hcz87_3 : w85.cell? ⟨gb237, 3, none⟩ = some (.int .i64 x238003_2) := (blk_cell BK237.out 3).trans rfl; have hcz87_4 : w85.cell? ⟨gb237, 4, none⟩ = some (.slice none 0 0) := (blk_cell BK237.out 4).trans rfl; have hcz87_5 : w85.cell? ⟨gb237, 5, none⟩ = some (.int .i64 x238005_2) := (blk_cell BK237.out 5).trans rfl; have hfz87_0 := blk_frozen BK237.out 0; have hfz87_1 := blk_frozen BK237.out 1; have hfz87_2 := blk_frozen BK237.out 2; have hfz87_3 := blk_frozen BK237.out 3; have hfz87_4 := blk_frozen BK237.out 4; have hfz87_5 := blk_frozen BK237.out 5))
                   have k0_ := blk_put BK237.out 0 (.string (rdOf ByteArray.empty t242 1)) (cs' := #[.string (rdOf ByteArray.empty t242 1), .string x238001_2, .int .u64 x238002_2, .int .i64 x238003_2, .slice none 0 0, .int .i64 x238005_2]) rfl
                   have k1_ := blk_put k0_ 1 (.string (rdOf ByteArray.empty t242 2)) (cs' := #[.string (rdOf ByteArray.empty t242 1), .string (rdOf ByteArray.empty t242 2), .int .u64 x238002_2, .int .i64 x238003_2, .slice none 0 0, .int .i64 x238005_2]) rfl
                   have k2_ := blk_put k1_ 2 (.int .u64 t256) (cs' := #[.string (rdOf ByteArray.empty t242 1), .string (rdOf ByteArray.empty t242 2), .int .u64 t256, .int .i64 x238003_2, .slice none 0 0, .int .i64 x238005_2]) rfl
                   have k3_ := blk_put k2_ 3 (.int .i64 t258) (cs' := #[.string (rdOf ByteArray.empty t242 1), .string (rdOf ByteArray.empty t242 2), .int .u64 t256, .int .i64 t258, .slice none 0 0, .int .i64 x238005_2]) rfl
                   have k4_ := blk_put k3_ 4 (.slice Ao84 x262004_2.length co84) (cs' := #[.string (rdOf ByteArray.empty t242 1), .string (rdOf ByteArray.empty t242 2), .int .u64 t256, .int .i64 t258, .slice Ao84 x262004_2.length co84, .int .i64 x238005_2]) rfl
                   have k5_ := blk_put k4_ 5 (.int .i64 t260) (cs' := #[.string (rdOf ByteArray.empty t242 1), .string (rdOf ByteArray.empty t242 2), .int .u64 t256, .int .i64 t258, .slice Ao84 x262004_2.length co84, .int .i64 t260]) rfl
                   refine bodyPost_ret (results_ct rfl _ _ gb237 25 #[.string (rdOf ByteArray.empty t242 1), .string (rdOf ByteArray.empty t242 2), .int .u64 t256, .int .i64 t258, .slice Ao84 x262004_2.length co84, .int .i64 t260] (0, 0) _ rfl k5_ Tryz.underlying25 rfl z85_) rfl ?_
                   exact ⟨_, z15_, by (with_reducible repeat (first | apply Kd.R_alloc | apply Kd.R_drewN | apply Kd.R_drew)); exact Kd.R_mono (Kd.R_far (p := ⟨gb237, 5, none⟩) (Kd.R_far (p := ⟨gb237, 4, none⟩) (Kd.R_far (p := ⟨gb237, 3, none⟩) (Kd.R_far (p := ⟨gb237, 2, none⟩) (Kd.R_far (p := ⟨gb237, 1, none⟩) (Kd.R_far (p := ⟨gb237, 0, none⟩) (Kd.R_types HO_262004.out BK237.out (by decide)) (fun _ hk => hk.2) (.string (rdOf ByteArray.empty t242 1))) (fun _ hk => hk.2) (.string (rdOf ByteArray.empty t242 2))) (fun _ hk => hk.2) (.int .u64 t256)) (fun _ hk => hk.2) (.int .i64 t258)) (fun _ hk => hk.2) (.slice Ao84 x262004_2.length co84)) (fun _ hk => hk.2) (.int .i64 t260)) (fun _ hk => trivial), z23_⟩
                  ·rw [if_neg c81] at H
                   have c81b0 : (t262.toList == a0.toList) = false := beq_eq_false_iff_ne.mpr c81
                   have c81b1 : (t262.toList != a0.toList) = true := bne_iff_ne.mpr c81
                   simp only [Option.some.injEq, Prod.mk.injEq] at H
                   obtain ⟨rfl, rfl, rfl, rfl, rfl, rfl, rfl⟩ := H
                   have hnb88 := NB261_237.out
                   have hnc88 := NB237_261.out
                   have hcz89_0 : wr.cell? ⟨gb261, 0, none⟩ = some (.string (rdOf ByteArray.empty t242 1)) := (blk_cell BK261.out 0).trans rfl
                   have hcz89_1 : wr.cell? ⟨gb261, 1, none⟩ = some (.string (rdOf ByteArray.empty t242 2)) := (blk_cell BK261.out 1).trans rfl
                   have hcz89_2 : wr.cell? ⟨gb261, 2, none⟩ = some (.int .u64 t256) := (blk_cell BK261.out 2).trans rfl
                   have hcz89_3 : wr.cell? ⟨gb261, 3, none⟩ = some (.int .i64 t258) := (blk_cell BK261.out 3).trans rfl
                   have hcz89_4 : wr.cell? ⟨gb261, 4, none⟩ = some (u262004) := (blk_cell BK261.out 4).trans rfl
                   have hcz89_5 : wr.cell? ⟨gb261, 5, none⟩ = some (.int .i64 t260) := (blk_cell BK261.out 5).trans rfl
                   have hfz89_0 := blk_frozen BK261.out 0
                   have hfz89_1 := blk_frozen BK261.out 1
                   have hfz89_2 := blk_frozen BK261.out 2
                   have hfz89_3 := blk_frozen BK261.out 3
                   have hfz89_4 := blk_frozen BK261.out 4
                   have hfz89_5 := blk_frozen BK261.out 5
                   obtain ⟨Ao90, co90, eo90⟩ := Kd.R_slice HO_262004.out
                   subst eo90
                   go_wp2_with (first | ((with_reducible refine gate_callee (f := 7) rfl ?_); refine goesL_ (some 102) rfl rfl Tryz.func7 z85_ rfl #[.agg #[.string (rdOf ByteArray.empty t242 1), .string (rdOf ByteArray.empty t242 2), .int .u64 t256, .int .i64 t258, .slice Ao90 x262004_2.length co90, .int .i64 t260]] rfl z31_ ?_; (with_reducible refine (cambistref19_Text.calls k2 (rdOf ByteArray.empty t242 1) (rdOf ByteArray.empty t242 2) t256 t258 _ _ x262004_2 t260 t262 t263 _ ?side1 ?side2 ?side3 A79.out).mono ?_); (case side1 => exact Glob.below HG.out z23_); (case side2 => repeat (first | exact (Kd.R_reads' HO_262004.out).2.2 | (with_reducible refine Kd.C_alloc ?_ _) | (with_reducible refine Kd.C_drewN ?_ _) | (with_reducible refine Kd.C_drew ?_))); (case side3 => exact (Kd.R_reads' HO_262004.out).2.1); rintro e w91 ⟨rfl, hb⟩; refine ⟨_, rfl, ?_⟩; have n0_ := a_ (Kd.R_below z53_ hb); have n1_ := a_ (Kd.R_below z43_ hb); have n2_ := a_ (blk_below (g := gb237) (o := .cells #[.string x238000_2, .string x238001_2, .int .u64 x238002_2, .int .i64 x238003_2, .slice none 0 0, .int .i64 x238005_2] 25 (0, 0)) z69_ hb); have n3_ := a_ (blk_below (g := gb261) (o := .cells #[.string (rdOf ByteArray.empty t242 1), .string (rdOf ByteArray.empty t242 2), .int .u64 t256, .int .i64 t258, .slice Ao90 x262004_2.length co90, .int .i64 t260] 25 (0, 0)) z70_ hb); have n4_ := a_ (below_step z23_ hb); clear HO_4; clear HO_262004; clear BK237; clear BK261; clear HB; have HO_4 := n0_; have HO_262004 := n1_; have BK237 := n2_; have BK261 := n3_; have HB := n4_; clear n0_ n1_ n2_ n3_ n4_; (try clear hb); (try clear hb2); (try clear hk); (try clear hi); have hcz92_0 : w91.cell? ⟨gb237, 0, none⟩ = some (.string x238000_2) := (blk_cell BK237.out 0).trans rfl; have hcz92_1 : w91.cell? ⟨gb237, 1, none⟩ = some (.string x238001_2) := (blk_cell BK237.out 1).trans rfl; have hcz92_2 : w91.cell? ⟨gb237, 2, none⟩ = some (.int .u64 x238002_2) := (blk_cell BK237.out 2).trans rfl; have hcz92_3 : w91.cell? ⟨gb237, 3, none⟩ = some (.int .i64 x238003_2) := (blk_cell BK237.out 3).trans rfl; have hcz92_4 : w91.cell? ⟨gb237, 4, none⟩ = some (.slice none 0 0) := (blk_cell BK237.out 4).trans rfl; have hcz92_5 : w91.cell? ⟨gb237, 5, none⟩ = some (.int .i64 x238005_2) := (blk_cell BK237.out 5).trans rfl; have hfz92_0 := blk_frozen BK237.out 0; have hfz92_1 := blk_frozen BK237.out 1; have hfz92_2 := blk_frozen BK237.out 2; have hfz92_3 := blk_frozen BK237.out 3; have hfz92_4 := blk_frozen BK237.out 4; have hfz92_5 := blk_frozen BK237.out 5))
                   have k0_ := blk_put BK237.out 0 (.string (⟨#[]⟩ : ByteArray)) (cs' := #[.string (⟨#[]⟩ : ByteArray), .string x238001_2, .int .u64 x238002_2, .int .i64 x238003_2, .slice none 0 0, .int .i64 x238005_2]) rfl
                   have k1_ := blk_put k0_ 1 (.string (⟨#[]⟩ : ByteArray)) (cs' := #[.string (⟨#[]⟩ : ByteArray), .string (⟨#[]⟩ : ByteArray), .int .u64 x238002_2, .int .i64 x238003_2, .slice none 0 0, .int .i64 x238005_2]) rfl
                   have k2_ := blk_put k1_ 2 (.int .u64 0) (cs' := #[.string (⟨#[]⟩ : ByteArray), .string (⟨#[]⟩ : ByteArray), .int .u64 0, .int .i64 x238003_2, .slice none 0 0, .int .i64 x238005_2]) rfl
                   have k3_ := blk_put k2_ 3 (.int .i64 0) (cs' := #[.string (⟨#[]⟩ : ByteArray), .string (⟨#[]⟩ : ByteArray), .int .u64 0, .int .i64 0, .slice none 0 0, .int .i64 x238005_2]) rfl
                   have k4_ := blk_put k3_ 4 (.slice none 0 0) (cs' := #[.string (⟨#[]⟩ : ByteArray), .string (⟨#[]⟩ : ByteArray), .int .u64 0, .int .i64 0, .slice none 0 0, .int .i64 x238005_2]) rfl
                   have k5_ := blk_put k4_ 5 (.int .i64 0) (cs' := #[.string (⟨#[]⟩ : ByteArray), .string (⟨#[]⟩ : ByteArray), .int .u64 0, .int .i64 0, .slice none 0 0, .int .i64 0]) rfl
                   refine bodyPost_ret (results_ct rfl _ _ gb237 25 #[.string (⟨#[]⟩ : ByteArray), .string (⟨#[]⟩ : ByteArray), .int .u64 0, .int .i64 0, .slice none 0 0, .int .i64 0] (0, 0) _ rfl k5_ Tryz.underlying25 rfl z85_) rfl ?_
                   exact ⟨_, z15_, z30_, z23_⟩
                 ·rw [if_neg c80] at H
                  have c80b0 : (t263 == 0) = false := beq_eq_false_iff_ne.mpr c80
                  have c80b1 : (t263 != 0) = true := bne_iff_ne.mpr c80
                  simp only [Option.some.injEq, Prod.mk.injEq] at H
                  obtain ⟨rfl, rfl, rfl, rfl, rfl, rfl, rfl⟩ := H
                  have hnb93 := NB261_237.out
                  have hnc93 := NB237_261.out
                  have hcz94_0 : wr.cell? ⟨gb261, 0, none⟩ = some (.string (rdOf ByteArray.empty t242 1)) := (blk_cell BK261.out 0).trans rfl
                  have hcz94_1 : wr.cell? ⟨gb261, 1, none⟩ = some (.string (rdOf ByteArray.empty t242 2)) := (blk_cell BK261.out 1).trans rfl
                  have hcz94_2 : wr.cell? ⟨gb261, 2, none⟩ = some (.int .u64 t256) := (blk_cell BK261.out 2).trans rfl
                  have hcz94_3 : wr.cell? ⟨gb261, 3, none⟩ = some (.int .i64 t258) := (blk_cell BK261.out 3).trans rfl
                  have hcz94_4 : wr.cell? ⟨gb261, 4, none⟩ = some (u262004) := (blk_cell BK261.out 4).trans rfl
                  have hcz94_5 : wr.cell? ⟨gb261, 5, none⟩ = some (.int .i64 t260) := (blk_cell BK261.out 5).trans rfl
                  have hfz94_0 := blk_frozen BK261.out 0
                  have hfz94_1 := blk_frozen BK261.out 1
                  have hfz94_2 := blk_frozen BK261.out 2
                  have hfz94_3 := blk_frozen BK261.out 3
                  have hfz94_4 := blk_frozen BK261.out 4
                  have hfz94_5 := blk_frozen BK261.out 5
                  obtain ⟨Ao95, co95, eo95⟩ := Kd.R_slice HO_262004.out
                  subst eo95
                  go_wp2_with (first | ((with_reducible refine gate_callee (f := 7) rfl ?_); refine goesL_ (some 102) rfl rfl Tryz.func7 z85_ rfl #[.agg #[.string (rdOf ByteArray.empty t242 1), .string (rdOf ByteArray.empty t242 2), .int .u64 t256, .int .i64 t258, .slice Ao95 x262004_2.length co95, .int .i64 t260]] rfl z31_ ?_; (with_reducible refine (cambistref19_Text.calls k2 (rdOf ByteArray.empty t242 1) (rdOf ByteArray.empty t242 2) t256 t258 _ _ x262004_2 t260 t262 t263 _ ?side1 ?side2 ?side3 A79.out).mono ?_); (case side1 => exact Glob.below HG.out z23_); (case side2 => repeat (first | exact (Kd.R_reads' HO_262004.out).2.2 | (with_reducible refine Kd.C_alloc ?_ _) | (with_reducible refine Kd.C_drewN ?_ _) | (with_reducible refine Kd.C_drew ?_))); (case side3 => exact (Kd.R_reads' HO_262004.out).2.1); rintro e w96 ⟨rfl, hb⟩; refine ⟨_, rfl, ?_⟩; have n0_ := a_ (Kd.R_below z53_ hb); have n1_ := a_ (Kd.R_below z43_ hb); have n2_ := a_ (blk_below (g := gb237) (o := .cells #[.string x238000_2, .string x238001_2, .int .u64 x238002_2, .int .i64 x238003_2, .slice none 0 0, .int .i64 x238005_2] 25 (0, 0)) z69_ hb); have n3_ := a_ (blk_below (g := gb261) (o := .cells #[.string (rdOf ByteArray.empty t242 1), .string (rdOf ByteArray.empty t242 2), .int .u64 t256, .int .i64 t258, .slice Ao95 x262004_2.length co95, .int .i64 t260] 25 (0, 0)) z70_ hb); have n4_ := a_ (below_step z23_ hb); clear HO_4; clear HO_262004; clear BK237; clear BK261; clear HB; have HO_4 := n0_; have HO_262004 := n1_; have BK237 := n2_; have BK261 := n3_; have HB := n4_; clear n0_ n1_ n2_ n3_ n4_; (try clear hb); (try clear hb2); (try clear hk); (try clear hi); have hcz97_0 : w96.cell? ⟨gb237, 0, none⟩ = some (.string x238000_2) := (blk_cell BK237.out 0).trans rfl; have hcz97_1 : w96.cell? ⟨gb237, 1, none⟩ = some (.string x238001_2) := (blk_cell BK237.out 1).trans rfl; have hcz97_2 : w96.cell? ⟨gb237, 2, none⟩ = some (.int .u64 x238002_2) := (blk_cell BK237.out 2).trans rfl; have hcz97_3 : w96.cell? ⟨gb237, 3, none⟩ = some (.int .i64 x238003_2) := (blk_cell BK237.out 3).trans rfl; have hcz97_4 : w96.cell? ⟨gb237, 4, none⟩ = some (.slice none 0 0) := (blk_cell BK237.out 4).trans rfl; have hcz97_5 : w96.cell? ⟨gb237, 5, none⟩ = some (.int .i64 x238005_2) := (blk_cell BK237.out 5).trans rfl; have hfz97_0 := blk_frozen BK237.out 0; have hfz97_1 := blk_frozen BK237.out 1; have hfz97_2 := blk_frozen BK237.out 2; have hfz97_3 := blk_frozen BK237.out 3; have hfz97_4 := blk_frozen BK237.out 4; have hfz97_5 := blk_frozen BK237.out 5))
                  have k0_ := blk_put BK237.out 0 (.string (⟨#[]⟩ : ByteArray)) (cs' := #[.string (⟨#[]⟩ : ByteArray), .string x238001_2, .int .u64 x238002_2, .int .i64 x238003_2, .slice none 0 0, .int .i64 x238005_2]) rfl
                  have k1_ := blk_put k0_ 1 (.string (⟨#[]⟩ : ByteArray)) (cs' := #[.string (⟨#[]⟩ : ByteArray), .string (⟨#[]⟩ : ByteArray), .int .u64 x238002_2, .int .i64 x238003_2, .slice none 0 0, .int .i64 x238005_2]) rfl
                  have k2_ := blk_put k1_ 2 (.int .u64 0) (cs' := #[.string (⟨#[]⟩ : ByteArray), .string (⟨#[]⟩ : ByteArray), .int .u64 0, .int .i64 x238003_2, .slice none 0 0, .int .i64 x238005_2]) rfl
                  have k3_ := blk_put k2_ 3 (.int .i64 0) (cs' := #[.string (⟨#[]⟩ : ByteArray), .string (⟨#[]⟩ : ByteArray), .int .u64 0, .int .i64 0, .slice none 0 0, .int .i64 x238005_2]) rfl
                  have k4_ := blk_put k3_ 4 (.slice none 0 0) (cs' := #[.string (⟨#[]⟩ : ByteArray), .string (⟨#[]⟩ : ByteArray), .int .u64 0, .int .i64 0, .slice none 0 0, .int .i64 x238005_2]) rfl
                  have k5_ := blk_put k4_ 5 (.int .i64 0) (cs' := #[.string (⟨#[]⟩ : ByteArray), .string (⟨#[]⟩ : ByteArray), .int .u64 0, .int .i64 0, .slice none 0 0, .int .i64 0]) rfl
                  refine bodyPost_ret (results_ct rfl _ _ gb237 25 #[.string (⟨#[]⟩ : ByteArray), .string (⟨#[]⟩ : ByteArray), .int .u64 0, .int .i64 0, .slice none 0 0, .int .i64 0] (0, 0) _ rfl k5_ Tryz.underlying25 rfl z85_) rfl ?_
                  exact ⟨_, z15_, z30_, z23_⟩
             ·rw [if_neg c39] at H
              exact absurd H (by simp)
            ·rw [if_neg c37] at H
             exact absurd H (by simp)
           ·rw [if_neg c35] at H
            exact absurd H (by simp)
          ·rw [if_neg c34] at H
           exact absurd H (by simp)
         ·rw [if_neg c33] at H
          exact absurd H (by simp)
     ·rw [if_neg c14] at H
      exact absurd H (by simp)
    ·rw [if_neg c13] at H
     exact absurd H (by simp)
   ·rw [if_neg c10] at H
    exact absurd H (by simp)
  ·rw [if_neg c8] at H
   exact absurd H (by simp)

end Go.Proofs.YtnngbnhbmgdkoaaGreatDoor.P
