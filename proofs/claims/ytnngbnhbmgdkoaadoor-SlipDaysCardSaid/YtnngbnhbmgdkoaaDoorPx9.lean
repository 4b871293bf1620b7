-- Laid by wip/tools/cprint.py of this claim's own repo (over the kit's print).
import Derived.Test.YtnngbnhbmgdkoaaDoorSq
import Derived.Test.YtnngbnhbmgdkoaaDoorPx0
import Derived.Test.YtnngbnhbmgdkoaaDoorPx3
import Derived.Test.YtnngbnhbmgdkoaaDoorPx4
import Derived.Test.YtnngbnhbmgdkoaaDoorPx7
import Derived.Test.YtnngbnhbmgdkoaaDoorPx8
import Derived.Test.YtnngbnhbmgdkoaaDoorAwake19
import Derived.Test.YtnngbnhbmgdkoaaDoorJSum
namespace Go.Proofs.YtnngbnhbmgdkoaaDoor.P
open Go.RowKit Go.Proofs.YtnngbnhbmgdkoaaDoor.E Go.Proofs.YtnngbnhbmgdkoaaDoorW.PrintWords Go.Proofs.YtnngbnhbmgdkoaaDoorW.PrintLast
set_option linter.unusedVariables false
set_option linter.unusedSimpArgs false

/-! ### cambistlaw19_SlipMakes: function 4 -/
def cambistlaw19_SlipMakes.f (k : Nat) (l0 : List (S45)) (a1 : ByteArray) (a2 : ByteArray) (a3 : Int) : Option (Bool) := (cambistlaw19_awake.f).bind fun t213 => ((cambistlaw19_few.f k l0).bind fun t214 => (if t214 = true then ((slip_Make.f k l0 a1 a2 a3).bind fun bt215 => ((cambistref19_Make.f k l0 a1 a2 a3).bind fun bt225 => ((cambistref19_Same.f k bt215.1 bt215.2.1 bt215.2.2.1 bt215.2.2.2.1 bt215.2.2.2.2.1 bt215.2.2.2.2.2.1 bt225.1 bt225.2.1 bt225.2.2.1 bt225.2.2.2.1 bt225.2.2.2.2.1 bt225.2.2.2.2.2.1).bind fun t235 => (if t213 = true then (if t235 = true then (some (bt215.2.2.2.2.2.2 == bt225.2.2.2.2.2.2)) else (none)) else (none))))) else (some t213)))
theorem cambistlaw19_SlipMakes.mono : ∀ a0 a1 a2 a3 k, LeO (cambistlaw19_SlipMakes.f k a0 a1 a2 a3) (cambistlaw19_SlipMakes.f (k + 1) a0 a1 a2 a3) := by
 intro a0 a1 a2 a3 k
 unfold cambistlaw19_SlipMakes.f
 repeat' first
   | (with_reducible exact cambistlaw19_few.mono _ _)
   | (with_reducible exact cambistref19_Make.mono _ _ _ _ _)
   | (with_reducible exact cambistref19_Same.mono _ _ _ _ _ _ _ _ _ _ _ _ _)
   | (with_reducible exact slip_Make.mono _ _ _ _ _)
   | (with_reducible first | exact LeO.refl _ | exact LeO.none _ | refine LeO.ite ?_ ?_ | refine LeO.bind ?_ fun _ => ?_)
   | exact cambistlaw19_few.mono _ _
   | exact cambistref19_Make.mono _ _ _ _ _
   | exact cambistref19_Same.mono _ _ _ _ _ _ _ _ _ _ _ _ _
   | exact slip_Make.mono _ _ _ _ _
set_option maxHeartbeats 8000000 in
set_option maxRecDepth 100000 in
theorem cambistlaw19_SlipMakes.calls (k : Nat) (A0 : Option Addr) (c0 : Nat) (l0 : List (S45)) (a1 : ByteArray) (a2 : ByteArray) (a3 : Int) (r : Bool) (w : World) (hG : Glob w) (hr0 : Kd.C k45 w A0 l0.length l0) (hc0 : l0.length ≤ c0) (h : cambistlaw19_SlipMakes.f k l0 a1 a2 a3 = some r) :
  Calls Tryd.prog 4 #[.slice A0 l0.length c0, .string a1, .string a2, .int .u64 a3] w fun e w' => e = .returned (.bool r) ∧ Below w.heap.size w w' := by
 have hu28 := Tryd.underlying28
 have HG := a_ hG
 clear hG
 have HR0 := a_ hr0
 have HC0 := a_ hc0
 clear hr0 hc0
 have HB := a_ (Below.refl w.heap.size w)
 have H : ((cambistlaw19_awake.f).bind fun t213 => ((cambistlaw19_few.f k l0).bind fun t214 => (if t214 = true then ((slip_Make.f k l0 a1 a2 a3).bind fun bt215 => ((cambistref19_Make.f k l0 a1 a2 a3).bind fun bt225 => ((cambistref19_Same.f k bt215.1 bt215.2.1 bt215.2.2.1 bt215.2.2.2.1 bt215.2.2.2.2.1 bt215.2.2.2.2.2.1 bt225.1 bt225.2.1 bt225.2.2.1 bt225.2.2.2.1 bt225.2.2.2.2.1 bt225.2.2.2.2.2.1).bind fun t235 => (if t213 = true then (if t235 = true then (some (bt215.2.2.2.2.2.2 == bt225.2.2.2.2.2.2)) else (none)) else (none))))) else (some t213)))) = some r := h
 clear h
 replace H := Option.bind_eq_some_iff.mp H
 obtain ⟨t213, A50, H⟩ := H
 replace H : ((cambistlaw19_few.f k l0).bind fun t214 => (if t214 = true then ((slip_Make.f k l0 a1 a2 a3).bind fun bt215 => ((cambistref19_Make.f k l0 a1 a2 a3).bind fun bt225 => ((cambistref19_Same.f k bt215.1 bt215.2.1 bt215.2.2.1 bt215.2.2.2.1 bt215.2.2.2.2.1 bt215.2.2.2.2.2.1 bt225.1 bt225.2.1 bt225.2.2.1 bt225.2.2.2.1 bt225.2.2.2.2.1 bt225.2.2.2.2.2.1).bind fun t235 => (if t213 = true then (if t235 = true then (some (bt215.2.2.2.2.2.2 == bt225.2.2.2.2.2.2)) else (none)) else (none))))) else (some t213))) = some r := H
 have A5 := a_ A50
 clear A50
 replace H := Option.bind_eq_some_iff.mp H
 obtain ⟨t214, A60, H⟩ := H
 replace H : (if t214 = true then ((slip_Make.f k l0 a1 a2 a3).bind fun bt215 => ((cambistref19_Make.f k l0 a1 a2 a3).bind fun bt225 => ((cambistref19_Same.f k bt215.1 bt215.2.1 bt215.2.2.1 bt215.2.2.2.1 bt215.2.2.2.2.1 bt215.2.2.2.2.2.1 bt225.1 bt225.2.1 bt225.2.2.1 bt225.2.2.2.1 bt225.2.2.2.2.1 bt225.2.2.2.2.2.1).bind fun t235 => (if t213 = true then (if t235 = true then (some (bt215.2.2.2.2.2.2 == bt225.2.2.2.2.2.2)) else (none)) else (none))))) else (some t213)) = some r := H
 have A6 := a_ A60
 clear A60
 by_cases c7 : t214 = true
 ·subst c7
  have H1 : ((slip_Make.f k l0 a1 a2 a3).bind fun bt215 => ((cambistref19_Make.f k l0 a1 a2 a3).bind fun bt225 => ((cambistref19_Same.f k bt215.1 bt215.2.1 bt215.2.2.1 bt215.2.2.2.1 bt215.2.2.2.2.1 bt215.2.2.2.2.2.1 bt225.1 bt225.2.1 bt225.2.2.1 bt225.2.2.2.1 bt225.2.2.2.2.1 bt225.2.2.2.2.2.1).bind fun t235 => (if t213 = true then (if t235 = true then (some (bt215.2.2.2.2.2.2 == bt225.2.2.2.2.2.2)) else (none)) else (none))))) = some r := by rw [if_pos rfl] at H; exact H
  clear H
  have H := H1
  clear H1
  replace H := Option.bind_eq_some_iff.mp H
  obtain ⟨⟨t215, t216, t217, t218, t219, t222, t223⟩, A80, H⟩ := H
  replace H : ((cambistref19_Make.f k l0 a1 a2 a3).bind fun bt225 => ((cambistref19_Same.f k t215 t216 t217 t218 t219 t222 bt225.1 bt225.2.1 bt225.2.2.1 bt225.2.2.2.1 bt225.2.2.2.2.1 bt225.2.2.2.2.2.1).bind fun t235 => (if t213 = true then (if t235 = true then (some (t223 == bt225.2.2.2.2.2.2)) else (none)) else (none)))) = some r := H
  have A8 := a_ A80
  clear A80
  replace H := Option.bind_eq_some_iff.mp H
  obtain ⟨⟨t225, t226, t227, t228, t229, t232, t233⟩, A90, H⟩ := H
  replace H : ((cambistref19_Same.f k t215 t216 t217 t218 t219 t222 t225 t226 t227 t228 t229 t232).bind fun t235 => (if t213 = true then (if t235 = true then (some (t223 == t233)) else (none)) else (none))) = some r := H
  have A9 := a_ A90
  clear A90
  replace H := Option.bind_eq_some_iff.mp H
  obtain ⟨t235, A100, H⟩ := H
  replace H : (if t213 = true then (if t235 = true then (some (t223 == t233)) else (none)) else (none)) = some r := H
  have A10 := a_ A100
  clear A100
  by_cases c11 : t213 = true
  ·subst c11
   have H1 : (if t235 = true then (some (t223 == t233)) else (none)) = some r := by rw [if_pos rfl] at H; exact H
   clear H
   have H := H1
   clear H1
   by_cases c12 : t235 = true
   ·subst c12
    have H1 : (some (t223 == t233)) = some r := by rw [if_pos rfl] at H; exact H
    clear H
    have H := H1
    clear H1
    obtain rfl := Option.some.inj H
    go_enter Tryd.func4, Tryd.ntmps4
    go_wp2_with (first | ((with_reducible refine gate_callee (f := 8) rfl ?_); refine goesL_ (some 15) rfl rfl Tryd.func8 z71_ rfl #[] rfl z26_ ?_; (with_reducible refine (cambistlaw19_awake.calls  true _ ?side1 A5.out).mono ?_); (case side1 => exact Glob.below HG.out z41_); rintro e w13 ⟨rfl, hb⟩; refine ⟨_, rfl, ?_⟩; have n0_ := a_ (below_step z41_ hb); clear HB; have HB := n0_; clear n0_; (try clear hb); (try clear hb2); (try clear hk); (try clear hi)) | ((with_reducible refine gate_callee (f := 9) rfl ?_); refine goesL_ (some 17) rfl rfl Tryd.func9 z71_ rfl #[.slice A0 l0.length c0] rfl z26_ ?_; (with_reducible refine (cambistlaw19_few.calls k _ _ l0 true _ ?side1 ?side2 ?side3 A6.out).mono ?_); (case side1 => exact Glob.below HG.out z41_); (case side2 => repeat (first | exact (Kd.C_below HR0.out HB.out) | (with_reducible refine Kd.C_alloc ?_ _) | (with_reducible refine Kd.C_drewN ?_ _) | (with_reducible refine Kd.C_drew ?_))); (case side3 => exact HC0.out); rintro e w' ⟨rfl, ⟨nd, rfl⟩⟩; refine ⟨_, rfl, ?_⟩; (try (rw [drewN_self w13]; generalize hq_ : World.drewN w13 _ = w13; have n0_ : Aside0 (Below w.heap.size w w13) := ⟨by rw [← hq_]; exact z41_⟩; clear HB hq_; have HB := n0_; clear n0_))) | ((with_reducible refine gate_callee (f := 10) rfl ?_); refine goesL_ (some 25) rfl rfl Tryd.func10 z71_ rfl #[.slice A0 l0.length c0, .string a1, .string a2, .int .u64 a3] rfl z26_ ?_; (with_reducible refine (slip_Make.calls k _ _ l0 a1 a2 a3 t215 t216 t217 t218 t219 t222 t223 _ ?side1 ?side2 ?side3 A8.out).mono ?_); (case side1 => exact Glob.below HG.out z41_); (case side2 => repeat (first | exact (Kd.C_below HR0.out HB.out) | (with_reducible refine Kd.C_alloc ?_ _) | (with_reducible refine Kd.C_drewN ?_ _) | (with_reducible refine Kd.C_drew ?_))); (case side3 => exact HC0.out); rintro e w14 ⟨v220, rfl, ho0, hb⟩; refine ⟨_, rfl, ?_⟩; have n0_ := a_ (Kd.R_lower ho0 (below_size z41_)); have n1_ := a_ (below_step z41_ hb); clear HB; have HO221 := n0_; have HB := n1_; clear n0_ n1_; (try clear hb); (try clear hb2); (try clear hk); (try clear hi); (try clear ho0)) | ((with_reducible refine gate_dst (N := 10) rfl ?_); refine box_event ?hg (N := 10) ?hd (cs := #[.string (⟨#[]⟩ : ByteArray), .string (⟨#[]⟩ : ByteArray), .int .u64 0, .int .i64 0, .slice none 0 0, .int .i64 0]) (t := 28) ?hr ?_; (case hd => rfl); (case hg => rfl); (case hr => first | (go_simp; done) | (go_simp; rfl)); intro gb224 hg w15 hbox hb; have n0_ := a_ (Kd.R_below (by (with_reducible repeat (first | apply Kd.R_alloc | apply Kd.R_drewN | apply Kd.R_drew)); exact HO221.out) hb); have n1_ := a_ (below_step z41_ hb); have n2_ := a_ (hbox); have n3_ := a_ ((z27_ : w.heap.size ≤ gb224)); have n4_ := a_ ((z27_ : w.heap.size ≤ gb224)); clear HO221; clear HB; have HO221 := n0_; have HB := n1_; have BK224 := n2_; have GW224 := n3_; have GE224 := n4_; clear n0_ n1_ n2_ n3_ n4_; clear hb hbox hg; have hcz16_0 : w15.cell? ⟨gb224, 0, none⟩ = some (.string (⟨#[]⟩ : ByteArray)) := (blk_cell BK224.out 0).trans rfl; have hcz16_1 : w15.cell? ⟨gb224, 1, none⟩ = some (.string (⟨#[]⟩ : ByteArray)) := (blk_cell BK224.out 1).trans rfl; have hcz16_2 : w15.cell? ⟨gb224, 2, none⟩ = some (.int .u64 0) := (blk_cell BK224.out 2).trans rfl; have hcz16_3 : w15.cell? ⟨gb224, 3, none⟩ = some (.int .i64 0) := (blk_cell BK224.out 3).trans rfl; have hcz16_4 : w15.cell? ⟨gb224, 4, none⟩ = some (.slice none 0 0) := (blk_cell BK224.out 4).trans rfl; have hcz16_5 : w15.cell? ⟨gb224, 5, none⟩ = some (.int .i64 0) := (blk_cell BK224.out 5).trans rfl; have hfz16_0 := blk_frozen BK224.out 0; have hfz16_1 := blk_frozen BK224.out 1; have hfz16_2 := blk_frozen BK224.out 2; have hfz16_3 := blk_frozen BK224.out 3; have hfz16_4 := blk_frozen BK224.out 4; have hfz16_5 := blk_frozen BK224.out 5; obtain ⟨Ao17, co17, eo17⟩ := Kd.R_slice HO221.out; subst eo17) | ((with_reducible refine gate_callee (f := 11) rfl ?_); refine goesL_ (some 33) rfl rfl Tryd.func11 z71_ rfl #[.slice A0 l0.length c0, .string a1, .string a2, .int .u64 a3] rfl z26_ ?_; (with_reducible refine (cambistref19_Make.calls k _ _ l0 a1 a2 a3 t225 t226 t227 t228 t229 t232 t233 _ ?side1 ?side2 ?side3 A9.out).mono ?_); (case side1 => exact Glob.below HG.out z35_); (case side2 => exact Kd.C_below HR0.out z35_); (case side3 => exact HC0.out); rintro e w18 ⟨v230, rfl, ho0, hb⟩; refine ⟨_, rfl, ?_⟩; have n0_ := a_ (Kd.R_elder' (by (with_reducible repeat (first | apply Kd.R_alloc | apply Kd.R_drewN | apply Kd.R_drew)); exact (Kd.R_mono (Kd.R_far (p := ⟨gb224, 5, none⟩) (Kd.R_far (p := ⟨gb224, 4, none⟩) (Kd.R_far (p := ⟨gb224, 3, none⟩) (Kd.R_far (p := ⟨gb224, 2, none⟩) (Kd.R_far (p := ⟨gb224, 1, none⟩) (Kd.R_far (p := ⟨gb224, 0, none⟩) (Kd.R_types HO221.out BK224.out (by decide)) (fun _ hk => hk.2) (.string t215)) (fun _ hk => hk.2) (.string t216)) (fun _ hk => hk.2) (.int .u64 t217)) (fun _ hk => hk.2) (.int .i64 t218)) (fun _ hk => hk.2) (.slice Ao17 t219.length co17)) (fun _ hk => hk.2) (.int .i64 t222)) (fun _ h_ => h_.1))) (Kd.R_base ho0) hb); have n1_ := a_ (Kd.R_lower (Kd.R_new' ho0 (Kd.R_lt (by (with_reducible repeat (first | apply Kd.R_alloc | apply Kd.R_drewN | apply Kd.R_drew)); exact (Kd.R_mono (Kd.R_far (p := ⟨gb224, 5, none⟩) (Kd.R_far (p := ⟨gb224, 4, none⟩) (Kd.R_far (p := ⟨gb224, 3, none⟩) (Kd.R_far (p := ⟨gb224, 2, none⟩) (Kd.R_far (p := ⟨gb224, 1, none⟩) (Kd.R_far (p := ⟨gb224, 0, none⟩) (Kd.R_types HO221.out BK224.out (by decide)) (fun _ hk => hk.2) (.string t215)) (fun _ hk => hk.2) (.string t216)) (fun _ hk => hk.2) (.int .u64 t217)) (fun _ hk => hk.2) (.int .i64 t218)) (fun _ hk => hk.2) (.slice Ao17 t219.length co17)) (fun _ hk => hk.2) (.int .i64 t222)) (fun _ h_ => h_.1))))) (below_size z35_)); have n2_ := a_ (blk_below (g := gb224) (o := .cells #[.string t215, .string t216, .int .u64 t217, .int .i64 t218, .slice Ao17 t219.length co17, .int .i64 t222] 28 (0, 0)) (by (with_reducible repeat (first | refine kN_ ?_ _ | refine kD_ ?_ | refine kA_ ?_ _)); refine blk_put (cs := #[.string t215, .string t216, .int .u64 t217, .int .i64 t218, .slice Ao17 t219.length co17, .int .i64 0]) ?_ 5 _ rfl; (with_reducible repeat (first | refine kN_ ?_ _ | refine kD_ ?_ | refine kA_ ?_ _)); refine blk_put (cs := #[.string t215, .string t216, .int .u64 t217, .int .i64 t218, .slice none 0 0, .int .i64 0]) ?_ 4 _ rfl; (with_reducible repeat (first | refine kN_ ?_ _ | refine kD_ ?_ | refine kA_ ?_ _)); refine blk_put (cs := #[.string t215, .string t216, .int .u64 t217, .int .i64 0, .slice none 0 0, .int .i64 0]) ?_ 3 _ rfl; (with_reducible repeat (first | refine kN_ ?_ _ | refine kD_ ?_ | refine kA_ ?_ _)); refine blk_put (cs := #[.string t215, .string t216, .int .u64 0, .int .i64 0, .slice none 0 0, .int .i64 0]) ?_ 2 _ rfl; (with_reducible repeat (first | refine kN_ ?_ _ | refine kD_ ?_ | refine kA_ ?_ _)); refine blk_put (cs := #[.string t215, .string (⟨#[]⟩ : ByteArray), .int .u64 0, .int .i64 0, .slice none 0 0, .int .i64 0]) ?_ 1 _ rfl; (with_reducible repeat (first | refine kN_ ?_ _ | refine kD_ ?_ | refine kA_ ?_ _)); refine blk_put (cs := #[.string (⟨#[]⟩ : ByteArray), .string (⟨#[]⟩ : ByteArray), .int .u64 0, .int .i64 0, .slice none 0 0, .int .i64 0]) ?_ 0 _ rfl; (with_reducible repeat (first | refine kN_ ?_ _ | refine kD_ ?_ | refine kA_ ?_ _)); exact BK224.out) hb); have n3_ := a_ (below_step z35_ hb); clear HO221; clear BK224; clear HB; have HO221 := n0_; have HO231 := n1_; have BK224 := n2_; have HB := n3_; clear n0_ n1_ n2_ n3_; (try clear hb); (try clear hb2); (try clear hk); (try clear hi); (try clear ho0)) | ((with_reducible refine gate_dst (N := 12) rfl ?_); refine box_event ?hg (N := 12) ?hd (cs := #[.string (⟨#[]⟩ : ByteArray), .string (⟨#[]⟩ : ByteArray), .int .u64 0, .int .i64 0, .slice none 0 0, .int .i64 0]) (t := 28) ?hr ?_; (case hd => rfl); (case hg => rfl); (case hr => first | (go_simp; done) | (go_simp; rfl)); intro gb234 hg w19 hbox hb; have n0_ := a_ (Kd.R_below (by (with_reducible repeat (first | apply Kd.R_alloc | apply Kd.R_drewN | apply Kd.R_drew)); exact HO221.out) hb); have n1_ := a_ (Kd.R_below (by (with_reducible repeat (first | apply Kd.R_alloc | apply Kd.R_drewN | apply Kd.R_drew)); exact HO231.out) hb); have n2_ := a_ (blk_below (g := gb224) (o := .cells #[.string t215, .string t216, .int .u64 t217, .int .i64 t218, .slice Ao17 t219.length co17, .int .i64 t222] 28 (0, 0)) z58_ hb); have n3_ := a_ (below_step z35_ hb); have n4_ := a_ (hbox); have n5_ := a_ ((by rw [hg]; exact (below_size z35_) : w.heap.size ≤ gb234)); have n6_ := a_ ((by rw [hg]; exact (below_size z35_) : w.heap.size ≤ gb234)); have n7_ := a_ ((by rw [hg]; exact Nat.ne_of_lt (blk_lt (g := gb224) (o := .cells #[.string t215, .string t216, .int .u64 t217, .int .i64 t218, .slice Ao17 t219.length co17, .int .i64 t222] 28 (0, 0)) z58_) : gb224 ≠ gb234)); have n8_ := a_ ((by rw [hg]; exact Nat.ne_of_gt (blk_lt (g := gb224) (o := .cells #[.string t215, .string t216, .int .u64 t217, .int .i64 t218, .slice Ao17 t219.length co17, .int .i64 t222] 28 (0, 0)) z58_) : gb234 ≠ gb224)); clear HO221; clear HO231; clear BK224; clear HB; have HO221 := n0_; have HO231 := n1_; have BK224 := n2_; have HB := n3_; have BK234 := n4_; have GW234 := n5_; have GE234 := n6_; have NB224_234 := n7_; have NB234_224 := n8_; clear n0_ n1_ n2_ n3_ n4_ n5_ n6_ n7_ n8_; clear hb hbox hg; have hnb20 := NB234_224.out; have hnc20 := NB224_234.out; have hcz21_0 : w19.cell? ⟨gb234, 0, none⟩ = some (.string (⟨#[]⟩ : ByteArray)) := (blk_cell BK234.out 0).trans rfl; have hcz21_1 : w19.cell? ⟨gb234, 1, none⟩ = some (.string (⟨#[]⟩ : ByteArray)) := (blk_cell BK234.out 1).trans rfl; have hcz21_2 : w19.cell? ⟨gb234, 2, none⟩ = some (.int .u64 0) := (blk_cell BK234.out 2).trans rfl; have hcz21_3 : w19.cell? ⟨gb234, 3, none⟩ = some (.int .i64 0) := (blk_cell BK234.out 3).trans rfl; have hcz21_4 : w19.cell? ⟨gb234, 4, none⟩ = some (.slice none 0 0) := (blk_cell BK234.out 4).trans rfl; have hcz21_5 : w19.cell? ⟨gb234, 5, none⟩ = some (.int .i64 0) := (blk_cell BK234.out 5).trans rfl; have hfz21_0 := blk_frozen BK234.out 0; have hfz21_1 := blk_frozen BK234.out 1; have hfz21_2 := blk_frozen BK234.out 2; have hfz21_3 := blk_frozen BK234.out 3; have hfz21_4 := blk_frozen BK234.out 4; have hfz21_5 := blk_frozen BK234.out 5; obtain ⟨Ao22, co22, eo22⟩ := Kd.R_slice HO231.out; subst eo22; have hcz23_0 : w19.cell? ⟨gb224, 0, none⟩ = some (.string t215) := (blk_cell BK224.out 0).trans rfl; have hcz23_1 : w19.cell? ⟨gb224, 1, none⟩ = some (.string t216) := (blk_cell BK224.out 1).trans rfl; have hcz23_2 : w19.cell? ⟨gb224, 2, none⟩ = some (.int .u64 t217) := (blk_cell BK224.out 2).trans rfl; have hcz23_3 : w19.cell? ⟨gb224, 3, none⟩ = some (.int .i64 t218) := (blk_cell BK224.out 3).trans rfl; have hcz23_4 : w19.cell? ⟨gb224, 4, none⟩ = some (.slice Ao17 t219.length co17) := (blk_cell BK224.out 4).trans rfl; have hcz23_5 : w19.cell? ⟨gb224, 5, none⟩ = some (.int .i64 t222) := (blk_cell BK224.out 5).trans rfl; have hfz23_0 := blk_frozen BK224.out 0; have hfz23_1 := blk_frozen BK224.out 1; have hfz23_2 := blk_frozen BK224.out 2; have hfz23_3 := blk_frozen BK224.out 3; have hfz23_4 := blk_frozen BK224.out 4; have hfz23_5 := blk_frozen BK224.out 5) | ((with_reducible refine gate_callee (f := 12) rfl ?_); refine goesL_ (some 38) rfl rfl Tryd.func12 z71_ rfl #[.agg #[.string t215, .string t216, .int .u64 t217, .int .i64 t218, .slice Ao17 t219.length co17, .int .i64 t222], .agg #[.string t225, .string t226, .int .u64 t227, .int .i64 t228, .slice Ao22 t229.length co22, .int .i64 t232]] rfl z26_ ?_; (with_reducible refine (cambistref19_Same.calls k t215 t216 t217 t218 _ _ t219 t222 t225 t226 t227 t228 _ _ t229 t232 true _ ?side1 ?side2 ?side3 ?side4 ?side5 A10.out).mono ?_); (case side1 => exact Glob.below HG.out z23_); (case side2 => refine (Kd.R_reads' (e := 49) (base := w.heap.size) (ok := fun k_ => (True ∧ some k_ ≠ (.slice Ao22 t229.length co22 : Value).ownBlock)) (n := t219.length) (c := co17) ?_).2.2; exact (by (with_reducible repeat (first | apply Kd.R_alloc | apply Kd.R_drewN | apply Kd.R_drew)); exact (Kd.R_mono (Kd.R_far (p := ⟨gb234, 5, none⟩) (Kd.R_far (p := ⟨gb234, 4, none⟩) (Kd.R_far (p := ⟨gb234, 3, none⟩) (Kd.R_far (p := ⟨gb234, 2, none⟩) (Kd.R_far (p := ⟨gb234, 1, none⟩) (Kd.R_far (p := ⟨gb234, 0, none⟩) (Kd.R_types HO221.out BK234.out (by decide)) (fun _ hk => hk.2) (.string t225)) (fun _ hk => hk.2) (.string t226)) (fun _ hk => hk.2) (.int .u64 t227)) (fun _ hk => hk.2) (.int .i64 t228)) (fun _ hk => hk.2) (.slice Ao22 t229.length co22)) (fun _ hk => hk.2) (.int .i64 t232)) (fun _ h_ => h_.1)))); (case side3 => exact (Kd.R_reads' HO221.out).2.1); (case side4 => refine (Kd.R_reads' (e := 49) (base := w.heap.size) (ok := fun k_ => (True ∧ some k_ ≠ (.slice Ao17 t219.length co17 : Value).ownBlock)) (n := t229.length) (c := co22) ?_).2.2; exact (by (with_reducible repeat (first | apply Kd.R_alloc | apply Kd.R_drewN | apply Kd.R_drew)); exact (Kd.R_mono (Kd.R_far (p := ⟨gb234, 5, none⟩) (Kd.R_far (p := ⟨gb234, 4, none⟩) (Kd.R_far (p := ⟨gb234, 3, none⟩) (Kd.R_far (p := ⟨gb234, 2, none⟩) (Kd.R_far (p := ⟨gb234, 1, none⟩) (Kd.R_far (p := ⟨gb234, 0, none⟩) (Kd.R_types HO231.out BK234.out (by decide)) (fun _ hk => hk.2) (.string t225)) (fun _ hk => hk.2) (.string t226)) (fun _ hk => hk.2) (.int .u64 t227)) (fun _ hk => hk.2) (.int .i64 t228)) (fun _ hk => hk.2) (.slice Ao22 t229.length co22)) (fun _ hk => hk.2) (.int .i64 t232)) (fun _ h_ => h_.1)))); (case side5 => exact (Kd.R_reads' HO231.out).2.1); rintro e w24 ⟨rfl, hb⟩; refine ⟨_, rfl, ?_⟩; have n0_ := a_ (Kd.R_below (by (with_reducible repeat (first | apply Kd.R_alloc | apply Kd.R_drewN | apply Kd.R_drew)); exact (Kd.R_mono (Kd.R_far (p := ⟨gb234, 5, none⟩) (Kd.R_far (p := ⟨gb234, 4, none⟩) (Kd.R_far (p := ⟨gb234, 3, none⟩) (Kd.R_far (p := ⟨gb234, 2, none⟩) (Kd.R_far (p := ⟨gb234, 1, none⟩) (Kd.R_far (p := ⟨gb234, 0, none⟩) (Kd.R_types HO221.out BK234.out (by decide)) (fun _ hk => hk.2) (.string t225)) (fun _ hk => hk.2) (.string t226)) (fun _ hk => hk.2) (.int .u64 t227)) (fun _ hk => hk.2) (.int .i64 t228)) (fun _ hk => hk.2) (.slice Ao22 t229.length co22)) (fun _ hk => hk.2) (.int .i64 t232)) (fun _ h_ => h_.1))) hb); have n1_ := a_ (Kd.R_below (by (with_reducible repeat (first | apply Kd.R_alloc | apply Kd.R_drewN | apply Kd.R_drew)); exact (Kd.R_mono (Kd.R_far (p := ⟨gb234, 5, none⟩) (Kd.R_far (p := ⟨gb234, 4, none⟩) (Kd.R_far (p := ⟨gb234, 3, none⟩) (Kd.R_far (p := ⟨gb234, 2, none⟩) (Kd.R_far (p := ⟨gb234, 1, none⟩) (Kd.R_far (p := ⟨gb234, 0, none⟩) (Kd.R_types HO231.out BK234.out (by decide)) (fun _ hk => hk.2) (.string t225)) (fun _ hk => hk.2) (.string t226)) (fun _ hk => hk.2) (.int .u64 t227)) (fun _ hk => hk.2) (.int .i64 t228)) (fun _ hk => hk.2) (.slice Ao22 t229.length co22)) (fun _ hk => hk.2) (.int .i64 t232)) (fun _ h_ => h_.1))) hb); have n2_ := a_ (blk_below (g := gb224) (o := .cells #[.string t215, .string t216, .int .u64 t217, .int .i64 t218, .slice Ao17 t219.length co17, .int .i64 t222] 28 (0, 0)) (by (with_reducible repeat (first | refine kN_ ?_ _ | refine kD_ ?_ | refine kA_ ?_ _)); refine blk_far ?_ NB224_234.out _; (with_reducible repeat (first | refine kN_ ?_ _ | refine kD_ ?_ | refine kA_ ?_ _)); refine blk_far ?_ NB224_234.out _; (with_reducible repeat (first | refine kN_ ?_ _ | refine kD_ ?_ | refine kA_ ?_ _)); refine blk_far ?_ NB224_234.out _; (with_reducible repeat (first | refine kN_ ?_ _ | refine kD_ ?_ | refine kA_ ?_ _)); refine blk_far ?_ NB224_234.out _; (with_reducible repeat (first | refine kN_ ?_ _ | refine kD_ ?_ | refine kA_ ?_ _)); refine blk_far ?_ NB224_234.out _; (with_reducible repeat (first | refine kN_ ?_ _ | refine kD_ ?_ | refine kA_ ?_ _)); refine blk_far ?_ NB224_234.out _; (with_reducible repeat (first | refine kN_ ?_ _ | refine kD_ ?_ | refine kA_ ?_ _)); exact BK224.out) hb); have n3_ := a_ (blk_below (g := gb234) (o := .cells #[.string t225, .string t226, .int .u64 t227, .int .i64 t228, .slice Ao22 t229.length co22, .int .i64 t232] 28 (0, 0)) (by (with_reducible repeat (first | refine kN_ ?_ _ | refine kD_ ?_ | refine kA_ ?_ _)); refine blk_put (cs := #[.string t225, .string t226, .int .u64 t227, .int .i64 t228, .slice Ao22 t229.length co22, .int .i64 0]) ?_ 5 _ rfl; (with_reducible repeat (first | refine kN_ ?_ _ | refine kD_ ?_ | refine kA_ ?_ _)); refine blk_put (cs := #[.string t225, .string t226, .int .u64 t227, .int .i64 t228, .slice none 0 0, .int .i64 0]) ?_ 4 _ rfl; (with_reducible repeat (first | refine kN_ ?_ _ | refine kD_ ?_ | refine kA_ ?_ _)); refine blk_put (cs := #[.string t225, .string t226, .int .u64 t227, .int .i64 0, .slice none 0 0, .int .i64 0]) ?_ 3 _ rfl; (with_reducible repeat (first | refine kN_ ?_ _ | refine kD_ ?_ | refine kA_ ?_ _)); refine blk_put (cs := #[.string t225, .string t226, .int .u64 0, .int .i64 0, .slice none 0 0, .int .i64 0]) ?_ 2 _ rfl; (with_reducible repeat (first | refine kN_ ?_ _ | refine kD_ ?_ | refine kA_ ?_ _)); refine blk_put (cs := #[.string t225, .string (⟨#[]⟩ : ByteArray), .int .u64 0, .int .i64 0, .slice none 0 0, .int .i64 0]) ?_ 1 _ rfl; (with_reducible repeat (first | refine kN_ ?_ _ | refine kD_ ?_ | refine kA_ ?_ _)); refine blk_put (cs := #[.string (⟨#[]⟩ : ByteArray), .string (⟨#[]⟩ : ByteArray), .int .u64 0, .int .i64 0, .slice none 0 0, .int .i64 0]) ?_ 0 _ rfl; (with_reducible repeat (first | refine kN_ ?_ _ | refine kD_ ?_ | refine kA_ ?_ _)); exact BK234.out) hb); have n4_ := a_ (below_step z23_ hb); clear HO221; clear HO231; clear BK224; clear BK234; clear HB; have HO221 := n0_; have HO231 := n1_; have BK224 := n2_; have BK234 := n3_; have HB := n4_; clear n0_ n1_ n2_ n3_ n4_; (try clear hb); (try clear hb2); (try clear hk); (try clear hi)))
    go_ret
    exact ⟨z61_, z23_⟩
   ·replace c12 := Bool.eq_false_iff.mpr c12
    subst c12
    have H1 : (none) = some r := by rw [if_neg (show ¬ (false = true) by decide)] at H; exact H
    clear H
    have H := H1
    clear H1
    exact absurd H (by simp)
  ·replace c11 := Bool.eq_false_iff.mpr c11
   subst c11
   have H1 : (none) = some r := by rw [if_neg (show ¬ (false = true) by decide)] at H; exact H
   clear H
   have H := H1
   clear H1
   exact absurd H (by simp)
 ·replace c7 := Bool.eq_false_iff.mpr c7
  subst c7
  have H1 : (some t213) = some r := by rw [if_neg (show ¬ (false = true) by decide)] at H; exact H
  clear H
  have H := H1
  clear H1
  obtain rfl := Option.some.inj H
  go_enter Tryd.func4, Tryd.ntmps4
  go_wp2_with (first | ((with_reducible refine gate_callee (f := 8) rfl ?_); refine goesL_ (some 15) rfl rfl Tryd.func8 z71_ rfl #[] rfl z26_ ?_; (with_reducible refine (cambistlaw19_awake.calls  t213 _ ?side1 A5.out).mono ?_); (case side1 => exact Glob.below HG.out z41_); rintro e w25 ⟨rfl, hb⟩; refine ⟨_, rfl, ?_⟩; have n0_ := a_ (below_step z41_ hb); clear HB; have HB := n0_; clear n0_; (try clear hb); (try clear hb2); (try clear hk); (try clear hi)) | ((with_reducible refine gate_callee (f := 9) rfl ?_); refine goesL_ (some 17) rfl rfl Tryd.func9 z71_ rfl #[.slice A0 l0.length c0] rfl z26_ ?_; (with_reducible refine (cambistlaw19_few.calls k _ _ l0 false _ ?side1 ?side2 ?side3 A6.out).mono ?_); (case side1 => exact Glob.below HG.out z41_); (case side2 => repeat (first | exact (Kd.C_below HR0.out HB.out) | (with_reducible refine Kd.C_alloc ?_ _) | (with_reducible refine Kd.C_drewN ?_ _) | (with_reducible refine Kd.C_drew ?_))); (case side3 => exact HC0.out); rintro e w' ⟨rfl, ⟨nd, rfl⟩⟩; refine ⟨_, rfl, ?_⟩))
  go_ret
  exact ⟨z61_, z41_⟩

/-! ### cambistlaw19_SlipDays: function 6 -/
mutual
def cambistlaw19_SlipDays.j0 : Nat → List (S45) → ByteArray → ByteArray → Int → Bool → Bool → Option (Bool)
 | 0, _, _, _, _, _, _ => none
 | k + 1, x0, x1, x2, x3, x9, x25 => if x25 = true then (some x9) else ((slip_Make.f k x0 x1 x2 x3).bind fun bt238 => ((slip_Make.f k x0 x1 x2 (IntKind.u64.wrap (x3 + 1))).bind fun bt248 => (if bt238.2.2.2.2.2.2 = 0 then (cambistlaw19_SlipDays.j1 k x0 x1 x2 x3 x9 (bt248.2.2.2.2.2.2 != 0) bt238.1 bt238.2.1 bt238.2.2.1 bt238.2.2.2.1 bt238.2.2.2.2.1 bt238.2.2.2.2.2.1 bt248.1 bt248.2.1 bt248.2.2.1 bt248.2.2.2.1 bt248.2.2.2.2.1 bt248.2.2.2.2.2.1) else (cambistlaw19_SlipDays.j1 k x0 x1 x2 x3 x9 true bt238.1 bt238.2.1 bt238.2.2.1 bt238.2.2.2.1 bt238.2.2.2.2.1 bt238.2.2.2.2.2.1 bt248.1 bt248.2.1 bt248.2.2.1 bt248.2.2.2.1 bt248.2.2.2.2.1 bt248.2.2.2.2.2.1))))
def cambistlaw19_SlipDays.j1 : Nat → List (S45) → ByteArray → ByteArray → Int → Bool → Bool → ByteArray → ByteArray → Int → Int → List (S49) → Int → ByteArray → ByteArray → Int → Int → List (S49) → Int → Option (Bool)
 | 0, _, _, _, _, _, _, _, _, _, _, _, _, _, _, _, _, _, _ => none
 | k + 1, x0, x1, x2, x3, x9, x49, x248000, x248001, x248002, x248003, x248004, x248005, x258000, x258001, x258002, x258003, x258004, x258005 => if x49 = true then (some x9) else ((journal_Sum.f x0 x1 x2 0 (IntKind.u64.wrap (x3 + 1))).bind fun bt258 => ((journal_Sum.f x0 x1 x2 x3 (IntKind.u64.wrap (x3 + 1))).bind fun bt260 => (if x9 = true then (if x248005 = x258003 then (if bt258.1 = x248005 then (if bt258.2 = 0 then (if bt260.2 = 0 then (some (bt260.1 == (wrap64 (x248005 - x248003)))) else (some true)) else (none)) else (none)) else (none)) else (none))))
end
def cambistlaw19_SlipDays.f (k : Nat) (l0 : List (S45)) (a1 : ByteArray) (a2 : ByteArray) (a3 : Int) : Option (Bool) := (cambistlaw19_awake.f).bind fun t236 => ((cambistlaw19_few.f k l0).bind fun t237 => (if t237 = true then (cambistlaw19_SlipDays.j0 k l0 a1 a2 a3 t236 (a3 == 18446744073709551615)) else (cambistlaw19_SlipDays.j0 k l0 a1 a2 a3 t236 true)))
theorem cambistlaw19_SlipDays.mono_l : ∀ k, (∀ y0 y1 y2 y3 y4 y5, LeO (cambistlaw19_SlipDays.j0 k y0 y1 y2 y3 y4 y5) (cambistlaw19_SlipDays.j0 (k + 1) y0 y1 y2 y3 y4 y5)) ∧ (∀ y0 y1 y2 y3 y4 y5 y6 y7 y8 y9 y10 y11 y12 y13 y14 y15 y16 y17, LeO (cambistlaw19_SlipDays.j1 k y0 y1 y2 y3 y4 y5 y6 y7 y8 y9 y10 y11 y12 y13 y14 y15 y16 y17) (cambistlaw19_SlipDays.j1 (k + 1) y0 y1 y2 y3 y4 y5 y6 y7 y8 y9 y10 y11 y12 y13 y14 y15 y16 y17))
 | 0 => ⟨fun _ _ _ _ _ _ r h => by simp [cambistlaw19_SlipDays.j0] at h, fun _ _ _ _ _ _ _ _ _ _ _ _ _ _ _ _ _ _ r h => by simp [cambistlaw19_SlipDays.j1] at h⟩
 | k + 1 => by
  obtain ⟨ih0, ih1⟩ := cambistlaw19_SlipDays.mono_l k
  refine ⟨?_, ?_⟩
  ·intro y0 y1 y2 y3 y4 y5
   unfold cambistlaw19_SlipDays.j0
   repeat' first
   | (with_reducible exact ih0 _ _ _ _ _ _)
   | (with_reducible exact ih1 _ _ _ _ _ _ _ _ _ _ _ _ _ _ _ _ _ _)
   | (with_reducible exact cambistlaw19_few.mono _ _)
   | (with_reducible exact slip_Make.mono _ _ _ _ _)
   | (with_reducible first | exact LeO.refl _ | exact LeO.none _ | refine LeO.ite ?_ ?_ | refine LeO.bind ?_ fun _ => ?_)
   | exact ih0 _ _ _ _ _ _
   | exact ih1 _ _ _ _ _ _ _ _ _ _ _ _ _ _ _ _ _ _
   | exact cambistlaw19_few.mono _ _
   | exact slip_Make.mono _ _ _ _ _
  ·intro y0 y1 y2 y3 y4 y5 y6 y7 y8 y9 y10 y11 y12 y13 y14 y15 y16 y17
   unfold cambistlaw19_SlipDays.j1
   repeat' first
   | (with_reducible exact ih0 _ _ _ _ _ _)
   | (with_reducible exact ih1 _ _ _ _ _ _ _ _ _ _ _ _ _ _ _ _ _ _)
   | (with_reducible exact cambistlaw19_few.mono _ _)
   | (with_reducible exact slip_Make.mono _ _ _ _ _)
   | (with_reducible first | exact LeO.refl _ | exact LeO.none _ | refine LeO.ite ?_ ?_ | refine LeO.bind ?_ fun _ => ?_)
   | exact ih0 _ _ _ _ _ _
   | exact ih1 _ _ _ _ _ _ _ _ _ _ _ _ _ _ _ _ _ _
   | exact cambistlaw19_few.mono _ _
   | exact slip_Make.mono _ _ _ _ _
theorem cambistlaw19_SlipDays.mono : ∀ a0 a1 a2 a3 k, LeO (cambistlaw19_SlipDays.f k a0 a1 a2 a3) (cambistlaw19_SlipDays.f (k + 1) a0 a1 a2 a3) := by
 intro a0 a1 a2 a3 k
 obtain ⟨ih0, ih1⟩ := cambistlaw19_SlipDays.mono_l k
 unfold cambistlaw19_SlipDays.f
 repeat' first
   | (with_reducible exact ih0 _ _ _ _ _ _)
   | (with_reducible exact ih1 _ _ _ _ _ _ _ _ _ _ _ _ _ _ _ _ _ _)
   | (with_reducible exact cambistlaw19_few.mono _ _)
   | (with_reducible exact slip_Make.mono _ _ _ _ _)
   | (with_reducible first | exact LeO.refl _ | exact LeO.none _ | refine LeO.ite ?_ ?_ | refine LeO.bind ?_ fun _ => ?_)
   | exact ih0 _ _ _ _ _ _
   | exact ih1 _ _ _ _ _ _ _ _ _ _ _ _ _ _ _ _ _ _
   | exact cambistlaw19_few.mono _ _
   | exact slip_Make.mono _ _ _ _ _
set_option maxHeartbeats 8000000 in
set_option maxRecDepth 100000 in
theorem cambistlaw19_SlipDays.calls (k : Nat) (A0 : Option Addr) (c0 : Nat) (l0 : List (S45)) (a1 : ByteArray) (a2 : ByteArray) (a3 : Int) (r : Bool) (w : World) (hG : Glob w) (hr0 : Kd.C k45 w A0 l0.length l0) (hc0 : l0.length ≤ c0) (h : cambistlaw19_SlipDays.f k l0 a1 a2 a3 = some r) :
  Calls Tryd.prog 6 #[.slice A0 l0.length c0, .string a1, .string a2, .int .u64 a3] w fun e w' => e = .returned (.bool r) ∧ Below w.heap.size w w' := by
 have hu28 := Tryd.underlying28
 have HG := a_ hG
 clear hG
 have HR0 := a_ hr0
 have HC0 := a_ hc0
 clear hr0 hc0
 have HB := a_ (Below.refl w.heap.size w)
 have H : ((cambistlaw19_awake.f).bind fun t236 => ((cambistlaw19_few.f k l0).bind fun t237 => (if t237 = true then (cambistlaw19_SlipDays.j0 k l0 a1 a2 a3 t236 (a3 == 18446744073709551615)) else (cambistlaw19_SlipDays.j0 k l0 a1 a2 a3 t236 true)))) = some r := h
 clear h
 replace H := Option.bind_eq_some_iff.mp H
 obtain ⟨t236, A50, H⟩ := H
 replace H : ((cambistlaw19_few.f k l0).bind fun t237 => (if t237 = true then (cambistlaw19_SlipDays.j0 k l0 a1 a2 a3 t236 (a3 == 18446744073709551615)) else (cambistlaw19_SlipDays.j0 k l0 a1 a2 a3 t236 true))) = some r := H
 have A5 := a_ A50
 clear A50
 have HC6 := a_ H
 clear H
 go_enter Tryd.func6, Tryd.ntmps6
 go_upto_region 2 with (first | ((with_reducible refine gate_callee (f := 8) rfl ?_); refine goesL_ (some 18) rfl rfl Tryd.func8 z71_ rfl #[] rfl z26_ ?_; (with_reducible refine (cambistlaw19_awake.calls  t236 _ ?side1 A5.out).mono ?_); (case side1 => exact Glob.below HG.out z41_); rintro e w7 ⟨rfl, hb⟩; refine ⟨_, rfl, ?_⟩; have n0_ := a_ (below_step z41_ hb); clear HB; have HB := n0_; clear n0_; (try clear hb); (try clear hb2); (try clear hk); (try clear hi)))
 (try simp only [Act.put, sT_, s0_, sS_])
 go_cut [25] (fun v25 wc => ∃ (kq : Nat) (x25_5 : Bool), v25 = .bool x25_5 ∧ Aside0 (cambistlaw19_SlipDays.j0 kq l0 a1 a2 a3 t236 x25_5 = some r) ∧ Aside0 (kq ≤ k) ∧ Aside0 (Below w.heap.size w wc))
 case first =>
  have H := HC6.out
  clear HC6
  replace H := Option.bind_eq_some_iff.mp H
  obtain ⟨t237, A80, H⟩ := H
  replace H : (if t237 = true then (cambistlaw19_SlipDays.j0 k l0 a1 a2 a3 t236 (a3 == 18446744073709551615)) else (cambistlaw19_SlipDays.j0 k l0 a1 a2 a3 t236 true)) = some r := H
  have A8 := a_ A80
  clear A80
  by_cases c9 : t237 = true
  ·subst c9
   have H1 : (cambistlaw19_SlipDays.j0 k l0 a1 a2 a3 t236 (a3 == 18446744073709551615)) = some r := by rw [if_pos rfl] at H; exact H
   clear H
   have H := H1
   clear H1
   have H' := a_ H
   clear H
   go_wp2_with (first | ((with_reducible refine gate_callee (f := 9) rfl ?_); refine goesL_ (some 20) rfl rfl Tryd.func9 z71_ rfl #[.slice A0 l0.length c0] rfl z26_ ?_; (with_reducible refine (cambistlaw19_few.calls k _ _ l0 true _ ?side1 ?side2 ?side3 A8.out).mono ?_); (case side1 => exact Glob.below HG.out z41_); (case side2 => repeat (first | exact (Kd.C_below HR0.out HB.out) | (with_reducible refine Kd.C_alloc ?_ _) | (with_reducible refine Kd.C_drewN ?_ _) | (with_reducible refine Kd.C_drew ?_))); (case side3 => exact HC0.out); rintro e w' ⟨rfl, ⟨nd, rfl⟩⟩; refine ⟨_, rfl, ?_⟩))
   go_meet
   case rel => exact ⟨_, ((a3 == 18446744073709551615)), z68_, H', ⟨z70_⟩, ⟨z41_⟩⟩
  ·replace c9 := Bool.eq_false_iff.mpr c9
   subst c9
   have H1 : (cambistlaw19_SlipDays.j0 k l0 a1 a2 a3 t236 true) = some r := by rw [if_neg (show ¬ (false = true) by decide)] at H; exact H
   clear H
   have H := H1
   clear H1
   have H' := a_ H
   clear H
   go_wp2_with (first | ((with_reducible refine gate_callee (f := 9) rfl ?_); refine goesL_ (some 20) rfl rfl Tryd.func9 z71_ rfl #[.slice A0 l0.length c0] rfl z26_ ?_; (with_reducible refine (cambistlaw19_few.calls k _ _ l0 false _ ?side1 ?side2 ?side3 A8.out).mono ?_); (case side1 => exact Glob.below HG.out z41_); (case side2 => repeat (first | exact (Kd.C_below HR0.out HB.out) | (with_reducible refine Kd.C_alloc ?_ _) | (with_reducible refine Kd.C_drewN ?_ _) | (with_reducible refine Kd.C_drew ?_))); (case side3 => exact HC0.out); rintro e w' ⟨rfl, ⟨nd, rfl⟩⟩; refine ⟨_, rfl, ?_⟩))
   go_meet
   case rel => exact ⟨_, (true), z68_, H', ⟨z70_⟩, ⟨z41_⟩⟩
 case rest =>
  clear HC6
  try clear p2
  try clear c6
  try clear c8
  try clear c9
  obtain ⟨kq, x25_5, rfl, HA, HJ5, HB⟩ := hcut
  cases kq with
  | zero => exact absurd HA.out (by simp [cambistlaw19_SlipDays.j0])
  | succ kj5 =>
   have H := HA.out
   clear HA
   simp only [cambistlaw19_SlipDays.j0] at H
   by_cases c10 : x25_5 = true
   ·subst c10
    have H1 : (some t236) = some r := by rw [if_pos rfl] at H; exact H
    clear H
    have H := H1
    clear H1
    obtain rfl := Option.some.inj H
    go_wp2
    go_ret
    exact ⟨z61_, z41_⟩
   ·replace c10 := Bool.eq_false_iff.mpr c10
    subst c10
    have H1 : ((slip_Make.f kj5 l0 a1 a2 a3).bind fun bt238 => ((slip_Make.f kj5 l0 a1 a2 (IntKind.u64.wrap (a3 + 1))).bind fun bt248 => (if bt238.2.2.2.2.2.2 = 0 then (cambistlaw19_SlipDays.j1 kj5 l0 a1 a2 a3 t236 (bt248.2.2.2.2.2.2 != 0) bt238.1 bt238.2.1 bt238.2.2.1 bt238.2.2.2.1 bt238.2.2.2.2.1 bt238.2.2.2.2.2.1 bt248.1 bt248.2.1 bt248.2.2.1 bt248.2.2.2.1 bt248.2.2.2.2.1 bt248.2.2.2.2.2.1) else (cambistlaw19_SlipDays.j1 kj5 l0 a1 a2 a3 t236 true bt238.1 bt238.2.1 bt238.2.2.1 bt238.2.2.2.1 bt238.2.2.2.2.1 bt238.2.2.2.2.2.1 bt248.1 bt248.2.1 bt248.2.2.1 bt248.2.2.2.1 bt248.2.2.2.2.1 bt248.2.2.2.2.2.1)))) = some r := by rw [if_neg (show ¬ (false = true) by decide)] at H; exact H
    clear H
    have H := H1
    clear H1
    replace H := Option.bind_eq_some_iff.mp H
    obtain ⟨⟨t238, t239, t240, t241, t242, t245, t246⟩, A110, H⟩ := H
    replace H : ((slip_Make.f kj5 l0 a1 a2 (IntKind.u64.wrap (a3 + 1))).bind fun bt248 => (if t246 = 0 then (cambistlaw19_SlipDays.j1 kj5 l0 a1 a2 a3 t236 (bt248.2.2.2.2.2.2 != 0) t238 t239 t240 t241 t242 t245 bt248.1 bt248.2.1 bt248.2.2.1 bt248.2.2.2.1 bt248.2.2.2.2.1 bt248.2.2.2.2.2.1) else (cambistlaw19_SlipDays.j1 kj5 l0 a1 a2 a3 t236 true t238 t239 t240 t241 t242 t245 bt248.1 bt248.2.1 bt248.2.2.1 bt248.2.2.2.1 bt248.2.2.2.2.1 bt248.2.2.2.2.2.1))) = some r := H
    have A11 := a_ A110
    clear A110
    replace H := Option.bind_eq_some_iff.mp H
    obtain ⟨⟨t248, t249, t250, t251, t252, t255, t256⟩, A120, H⟩ := H
    replace H : (if t246 = 0 then (cambistlaw19_SlipDays.j1 kj5 l0 a1 a2 a3 t236 (t256 != 0) t238 t239 t240 t241 t242 t245 t248 t249 t250 t251 t252 t255) else (cambistlaw19_SlipDays.j1 kj5 l0 a1 a2 a3 t236 true t238 t239 t240 t241 t242 t245 t248 t249 t250 t251 t252 t255)) = some r := H
    have A12 := a_ A120
    clear A120
    have HC13 := a_ H
    clear H
    go_upto_region 6 with (first | ((with_reducible refine gate_callee (f := 10) rfl ?_); refine goesL_ (some 32) rfl rfl Tryd.func10 z71_ rfl #[.slice A0 l0.length c0, .string a1, .string a2, .int .u64 a3] rfl z26_ ?_; (with_reducible refine (slip_Make.calls kj5 _ _ l0 a1 a2 a3 t238 t239 t240 t241 t242 t245 t246 _ ?side1 ?side2 ?side3 A11.out).mono ?_); (case side1 => exact Glob.below HG.out z41_); (case side2 => repeat (first | exact (Kd.C_below HR0.out HB.out) | (with_reducible refine Kd.C_alloc ?_ _) | (with_reducible refine Kd.C_drewN ?_ _) | (with_reducible refine Kd.C_drew ?_))); (case side3 => exact HC0.out); rintro e w14 ⟨v243, rfl, ho0, hb⟩; refine ⟨_, rfl, ?_⟩; have n0_ := a_ (Kd.R_lower ho0 (below_size z41_)); have n1_ := a_ (below_step z41_ hb); clear HB; have HO244 := n0_; have HB := n1_; clear n0_ n1_; (try clear hb); (try clear hb2); (try clear hk); (try clear hi); (try clear ho0)) | ((with_reducible refine gate_dst (N := 10) rfl ?_); refine box_event ?hg (N := 10) ?hd (cs := #[.string (⟨#[]⟩ : ByteArray), .string (⟨#[]⟩ : ByteArray), .int .u64 0, .int .i64 0, .slice none 0 0, .int .i64 0]) (t := 28) ?hr ?_; (case hd => rfl); (case hg => rfl); (case hr => first | (go_simp; done) | (go_simp; rfl)); intro gb247 hg w15 hbox hb; have n0_ := a_ (Kd.R_below (by (with_reducible repeat (first | apply Kd.R_alloc | apply Kd.R_drewN | apply Kd.R_drew)); exact HO244.out) hb); have n1_ := a_ (below_step z41_ hb); have n2_ := a_ (hbox); have n3_ := a_ ((z27_ : w.heap.size ≤ gb247)); have n4_ := a_ ((z27_ : w.heap.size ≤ gb247)); clear HO244; clear HB; have HO244 := n0_; have HB := n1_; have BK247 := n2_; have GW247 := n3_; have GE247 := n4_; clear n0_ n1_ n2_ n3_ n4_; clear hb hbox hg; have hcz16_0 : w15.cell? ⟨gb247, 0, none⟩ = some (.string (⟨#[]⟩ : ByteArray)) := (blk_cell BK247.out 0).trans rfl; have hcz16_1 : w15.cell? ⟨gb247, 1, none⟩ = some (.string (⟨#[]⟩ : ByteArray)) := (blk_cell BK247.out 1).trans rfl; have hcz16_2 : w15.cell? ⟨gb247, 2, none⟩ = some (.int .u64 0) := (blk_cell BK247.out 2).trans rfl; have hcz16_3 : w15.cell? ⟨gb247, 3, none⟩ = some (.int .i64 0) := (blk_cell BK247.out 3).trans rfl; have hcz16_4 : w15.cell? ⟨gb247, 4, none⟩ = some (.slice none 0 0) := (blk_cell BK247.out 4).trans rfl; have hcz16_5 : w15.cell? ⟨gb247, 5, none⟩ = some (.int .i64 0) := (blk_cell BK247.out 5).trans rfl; have hfz16_0 := blk_frozen BK247.out 0; have hfz16_1 := blk_frozen BK247.out 1; have hfz16_2 := blk_frozen BK247.out 2; have hfz16_3 := blk_frozen BK247.out 3; have hfz16_4 := blk_frozen BK247.out 4; have hfz16_5 := blk_frozen BK247.out 5; obtain ⟨Ao17, co17, eo17⟩ := Kd.R_slice HO244.out; subst eo17) | ((with_reducible refine gate_callee (f := 10) rfl ?_); refine goesL_ (some 41) rfl rfl Tryd.func10 z71_ rfl #[.slice A0 l0.length c0, .string a1, .string a2, .int .u64 (IntKind.u64.wrap (a3 + 1))] rfl z26_ ?_; (with_reducible refine (slip_Make.calls kj5 _ _ l0 a1 a2 (IntKind.u64.wrap (a3 + 1)) t248 t249 t250 t251 t252 t255 t256 _ ?side1 ?side2 ?side3 A12.out).mono ?_); (case side1 => exact Glob.below HG.out z36_); (case side2 => exact Kd.C_below HR0.out z36_); (case side3 => exact HC0.out); rintro e w18 ⟨v253, rfl, ho0, hb⟩; refine ⟨_, rfl, ?_⟩; have n0_ := a_ (Kd.R_elder' (by (with_reducible repeat (first | apply Kd.R_alloc | apply Kd.R_drewN | apply Kd.R_drew)); exact (Kd.R_mono (Kd.R_far (p := ⟨gb247, 5, none⟩) (Kd.R_far (p := ⟨gb247, 4, none⟩) (Kd.R_far (p := ⟨gb247, 3, none⟩) (Kd.R_far (p := ⟨gb247, 2, none⟩) (Kd.R_far (p := ⟨gb247, 1, none⟩) (Kd.R_far (p := ⟨gb247, 0, none⟩) (Kd.R_types HO244.out BK247.out (by decide)) (fun _ hk => hk.2) (.string t238)) (fun _ hk => hk.2) (.string t239)) (fun _ hk => hk.2) (.int .u64 t240)) (fun _ hk => hk.2) (.int .i64 t241)) (fun _ hk => hk.2) (.slice Ao17 t242.length co17)) (fun _ hk => hk.2) (.int .i64 t245)) (fun _ h_ => h_.1))) (Kd.R_base ho0) hb); have n1_ := a_ (Kd.R_lower (Kd.R_new' ho0 (Kd.R_lt (by (with_reducible repeat (first | apply Kd.R_alloc | apply Kd.R_drewN | apply Kd.R_drew)); exact (Kd.R_mono (Kd.R_far (p := ⟨gb247, 5, none⟩) (Kd.R_far (p := ⟨gb247, 4, none⟩) (Kd.R_far (p := ⟨gb247, 3, none⟩) (Kd.R_far (p := ⟨gb247, 2, none⟩) (Kd.R_far (p := ⟨gb247, 1, none⟩) (Kd.R_far (p := ⟨gb247, 0, none⟩) (Kd.R_types HO244.out BK247.out (by decide)) (fun _ hk => hk.2) (.string t238)) (fun _ hk => hk.2) (.string t239)) (fun _ hk => hk.2) (.int .u64 t240)) (fun _ hk => hk.2) (.int .i64 t241)) (fun _ hk => hk.2) (.slice Ao17 t242.length co17)) (fun _ hk => hk.2) (.int .i64 t245)) (fun _ h_ => h_.1))))) (below_size z36_)); have n2_ := a_ (blk_below (g := gb247) (o := .cells #[.string t238, .string t239, .int .u64 t240, .int .i64 t241, .slice Ao17 t242.length co17, .int .i64 t245] 28 (0, 0)) (by (with_reducible repeat (first | refine kN_ ?_ _ | refine kD_ ?_ | refine kA_ ?_ _)); refine blk_put (cs := #[.string t238, .string t239, .int .u64 t240, .int .i64 t241, .slice Ao17 t242.length co17, .int .i64 0]) ?_ 5 _ rfl; (with_reducible repeat (first | refine kN_ ?_ _ | refine kD_ ?_ | refine kA_ ?_ _)); refine blk_put (cs := #[.string t238, .string t239, .int .u64 t240, .int .i64 t241, .slice none 0 0, .int .i64 0]) ?_ 4 _ rfl; (with_reducible repeat (first | refine kN_ ?_ _ | refine kD_ ?_ | refine kA_ ?_ _)); refine blk_put (cs := #[.string t238, .string t239, .int .u64 t240, .int .i64 0, .slice none 0 0, .int .i64 0]) ?_ 3 _ rfl; (with_reducible repeat (first | refine kN_ ?_ _ | refine kD_ ?_ | refine kA_ ?_ _)); refine blk_put (cs := #[.string t238, .string t239, .int .u64 0, .int .i64 0, .slice none 0 0, .int .i64 0]) ?_ 2 _ rfl; (with_reducible repeat (first | refine kN_ ?_ _ | refine kD_ ?_ | refine kA_ ?_ _)); refine blk_put (cs := #[.string t238, .string (⟨#[]⟩ : ByteArray), .int .u64 0, .int .i64 0, .slice none 0 0, .int .i64 0]) ?_ 1 _ rfl; (with_reducible repeat (first | refine kN_ ?_ _ | refine kD_ ?_ | refine kA_ ?_ _)); refine blk_put (cs := #[.string (⟨#[]⟩ : ByteArray), .string (⟨#[]⟩ : ByteArray), .int .u64 0, .int .i64 0, .slice none 0 0, .int .i64 0]) ?_ 0 _ rfl; (with_reducible repeat (first | refine kN_ ?_ _ | refine kD_ ?_ | refine kA_ ?_ _)); exact BK247.out) hb); have n3_ := a_ (below_step z36_ hb); clear HO244; clear BK247; clear HB; have HO244 := n0_; have HO254 := n1_; have BK247 := n2_; have HB := n3_; clear n0_ n1_ n2_ n3_; (try clear hb); (try clear hb2); (try clear hk); (try clear hi); (try clear ho0)) | ((with_reducible refine gate_dst (N := 12) rfl ?_); refine box_event ?hg (N := 12) ?hd (cs := #[.string (⟨#[]⟩ : ByteArray), .string (⟨#[]⟩ : ByteArray), .int .u64 0, .int .i64 0, .slice none 0 0, .int .i64 0]) (t := 28) ?hr ?_; (case hd => rfl); (case hg => rfl); (case hr => first | (go_simp; done) | (go_simp; rfl)); intro gb257 hg w19 hbox hb; have n0_ := a_ (Kd.R_below (by (with_reducible repeat (first | apply Kd.R_alloc | apply Kd.R_drewN | apply Kd.R_drew)); exact HO244.out) hb); have n1_ := a_ (Kd.R_below (by (with_reducible repeat (first | apply Kd.R_alloc | apply Kd.R_drewN | apply Kd.R_drew)); exact HO254.out) hb); have n2_ := a_ (blk_below (g := gb247) (o := .cells #[.string t238, .string t239, .int .u64 t240, .int .i64 t241, .slice Ao17 t242.length co17, .int .i64 t245] 28 (0, 0)) z59_ hb); have n3_ := a_ (below_step z36_ hb); have n4_ := a_ (hbox); have n5_ := a_ ((by rw [hg]; exact (below_size z36_) : w.heap.size ≤ gb257)); have n6_ := a_ ((by rw [hg]; exact (below_size z36_) : w.heap.size ≤ gb257)); have n7_ := a_ ((by rw [hg]; exact Nat.ne_of_lt (blk_lt (g := gb247) (o := .cells #[.string t238, .string t239, .int .u64 t240, .int .i64 t241, .slice Ao17 t242.length co17, .int .i64 t245] 28 (0, 0)) z59_) : gb247 ≠ gb257)); have n8_ := a_ ((by rw [hg]; exact Nat.ne_of_gt (blk_lt (g := gb247) (o := .cells #[.string t238, .string t239, .int .u64 t240, .int .i64 t241, .slice Ao17 t242.length co17, .int .i64 t245] 28 (0, 0)) z59_) : gb257 ≠ gb247)); clear HO244; clear HO254; clear BK247; clear HB; have HO244 := n0_; have HO254 := n1_; have BK247 := n2_; have HB := n3_; have BK257 := n4_; have GW257 := n5_; have GE257 := n6_; have NB247_257 := n7_; have NB257_247 := n8_; clear n0_ n1_ n2_ n3_ n4_ n5_ n6_ n7_ n8_; clear hb hbox hg; have hnb20 := NB257_247.out; have hnc20 := NB247_257.out; have hcz21_0 : w19.cell? ⟨gb257, 0, none⟩ = some (.string (⟨#[]⟩ : ByteArray)) := (blk_cell BK257.out 0).trans rfl; have hcz21_1 : w19.cell? ⟨gb257, 1, none⟩ = some (.string (⟨#[]⟩ : ByteArray)) := (blk_cell BK257.out 1).trans rfl; have hcz21_2 : w19.cell? ⟨gb257, 2, none⟩ = some (.int .u64 0) := (blk_cell BK257.out 2).trans rfl; have hcz21_3 : w19.cell? ⟨gb257, 3, none⟩ = some (.int .i64 0) := (blk_cell BK257.out 3).trans rfl; have hcz21_4 : w19.cell? ⟨gb257, 4, none⟩ = some (.slice none 0 0) := (blk_cell BK257.out 4).trans rfl; have hcz21_5 : w19.cell? ⟨gb257, 5, none⟩ = some (.int .i64 0) := (blk_cell BK257.out 5).trans rfl; have hfz21_0 := blk_frozen BK257.out 0; have hfz21_1 := blk_frozen BK257.out 1; have hfz21_2 := blk_frozen BK257.out 2; have hfz21_3 := blk_frozen BK257.out 3; have hfz21_4 := blk_frozen BK257.out 4; have hfz21_5 := blk_frozen BK257.out 5; obtain ⟨Ao22, co22, eo22⟩ := Kd.R_slice HO254.out; subst eo22))
    (try simp only [Act.put, sT_, s0_, sS_])
    go_cut [49] (fun v49 wc => ∃ (kq : Nat) (x49_12 : Bool), v49 = .bool x49_12 ∧ Aside0 (cambistlaw19_SlipDays.j1 kq l0 a1 a2 a3 t236 x49_12 t238 t239 t240 t241 t242 t245 t248 t249 t250 t251 t252 t255 = some r) ∧ Aside0 (kq ≤ kj5) ∧ Aside0 (Kd.R k49 49 wc w.heap.size (fun k_ => some k_ ≠ ((.slice Ao22 t252.length co22) : Value).ownBlock) (.slice Ao17 t242.length co17) t242) ∧ Aside0 (Kd.R k49 49 wc w.heap.size (fun k_ => some k_ ≠ ((.slice Ao17 t242.length co17) : Value).ownBlock) (.slice Ao22 t252.length co22) t252) ∧ Aside0 (wc.heap[gb247]? = some (.cells #[.string t238, .string t239, .int .u64 t240, .int .i64 t241, (.slice Ao17 t242.length co17), .int .i64 t245] 28 (0, 0))) ∧ Aside0 (wc.heap[gb257]? = some (.cells #[.string t248, .string t249, .int .u64 t250, .int .i64 t251, (.slice Ao22 t252.length co22), .int .i64 t255] 28 (0, 0))) ∧ Aside0 (Below w.heap.size w wc))
    case first =>
     have H := HC13.out
     clear HC13
     by_cases c23 : t246 = 0
     ·rw [if_pos c23] at H
      have c23b0 : (t246 == 0) = true := beq_iff_eq.mpr c23
      have c23b1 : (t246 != 0) = false := bne_eq_false_iff_eq.mpr c23
      clear c23
      (first | rw [c23b0] | (simp only [i64_w, i32_w]; rw [c23b0]) | skip)
      have H' := a_ H
      clear H
      go_wp2
      go_meet
      case rel => exact ⟨_, ((t256 != 0)), z68_, H', ⟨by have := HJ5.out; first | omega | exact Nat.le_refl _⟩, ⟨by (with_reducible repeat (first | apply Kd.R_alloc | apply Kd.R_drewN | apply Kd.R_drew)); exact Kd.R_mono (Kd.R_far (p := ⟨gb257, 5, none⟩) (Kd.R_far (p := ⟨gb257, 4, none⟩) (Kd.R_far (p := ⟨gb257, 3, none⟩) (Kd.R_far (p := ⟨gb257, 2, none⟩) (Kd.R_far (p := ⟨gb257, 1, none⟩) (Kd.R_far (p := ⟨gb257, 0, none⟩) (Kd.R_types HO244.out BK257.out (by decide)) (fun _ hk => hk.2) (.string t248)) (fun _ hk => hk.2) (.string t249)) (fun _ hk => hk.2) (.int .u64 t250)) (fun _ hk => hk.2) (.int .i64 t251)) (fun _ hk => hk.2) (.slice Ao22 t252.length co22)) (fun _ hk => hk.2) (.int .i64 t255)) (fun _ hk => hk.1.2)⟩, ⟨by (with_reducible repeat (first | apply Kd.R_alloc | apply Kd.R_drewN | apply Kd.R_drew)); exact Kd.R_mono (Kd.R_far (p := ⟨gb257, 5, none⟩) (Kd.R_far (p := ⟨gb257, 4, none⟩) (Kd.R_far (p := ⟨gb257, 3, none⟩) (Kd.R_far (p := ⟨gb257, 2, none⟩) (Kd.R_far (p := ⟨gb257, 1, none⟩) (Kd.R_far (p := ⟨gb257, 0, none⟩) (Kd.R_types HO254.out BK257.out (by decide)) (fun _ hk => hk.2) (.string t248)) (fun _ hk => hk.2) (.string t249)) (fun _ hk => hk.2) (.int .u64 t250)) (fun _ hk => hk.2) (.int .i64 t251)) (fun _ hk => hk.2) (.slice Ao22 t252.length co22)) (fun _ hk => hk.2) (.int .i64 t255)) (fun _ hk => hk.1.2)⟩, ⟨by (with_reducible repeat (first | refine kN_ ?_ _ | refine kD_ ?_ | refine kA_ ?_ _)); refine blk_far ?_ NB247_257.out _; (with_reducible repeat (first | refine kN_ ?_ _ | refine kD_ ?_ | refine kA_ ?_ _)); refine blk_far ?_ NB247_257.out _; (with_reducible repeat (first | refine kN_ ?_ _ | refine kD_ ?_ | refine kA_ ?_ _)); refine blk_far ?_ NB247_257.out _; (with_reducible repeat (first | refine kN_ ?_ _ | refine kD_ ?_ | refine kA_ ?_ _)); refine blk_far ?_ NB247_257.out _; (with_reducible repeat (first | refine kN_ ?_ _ | refine kD_ ?_ | refine kA_ ?_ _)); refine blk_far ?_ NB247_257.out _; (with_reducible repeat (first | refine kN_ ?_ _ | refine kD_ ?_ | refine kA_ ?_ _)); refine blk_far ?_ NB247_257.out _; (with_reducible repeat (first | refine kN_ ?_ _ | refine kD_ ?_ | refine kA_ ?_ _)); exact BK247.out⟩, ⟨by (with_reducible repeat (first | refine kN_ ?_ _ | refine kD_ ?_ | refine kA_ ?_ _)); refine blk_put (cs := #[.string t248, .string t249, .int .u64 t250, .int .i64 t251, .slice Ao22 t252.length co22, .int .i64 0]) ?_ 5 _ rfl; (with_reducible repeat (first | refine kN_ ?_ _ | refine kD_ ?_ | refine kA_ ?_ _)); refine blk_put (cs := #[.string t248, .string t249, .int .u64 t250, .int .i64 t251, .slice none 0 0, .int .i64 0]) ?_ 4 _ rfl; (with_reducible repeat (first | refine kN_ ?_ _ | refine kD_ ?_ | refine kA_ ?_ _)); refine blk_put (cs := #[.string t248, .string t249, .int .u64 t250, .int .i64 0, .slice none 0 0, .int .i64 0]) ?_ 3 _ rfl; (with_reducible repeat (first | refine kN_ ?_ _ | refine kD_ ?_ | refine kA_ ?_ _)); refine blk_put (cs := #[.string t248, .string t249, .int .u64 0, .int .i64 0, .slice none 0 0, .int .i64 0]) ?_ 2 _ rfl; (with_reducible repeat (first | refine kN_ ?_ _ | refine kD_ ?_ | refine kA_ ?_ _)); refine blk_put (cs := #[.string t248, .string (⟨#[]⟩ : ByteArray), .int .u64 0, .int .i64 0, .slice none 0 0, .int .i64 0]) ?_ 1 _ rfl; (with_reducible repeat (first | refine kN_ ?_ _ | refine kD_ ?_ | refine kA_ ?_ _)); refine blk_put (cs := #[.string (⟨#[]⟩ : ByteArray), .string (⟨#[]⟩ : ByteArray), .int .u64 0, .int .i64 0, .slice none 0 0, .int .i64 0]) ?_ 0 _ rfl; (with_reducible repeat (first | refine kN_ ?_ _ | refine kD_ ?_ | refine kA_ ?_ _)); exact BK257.out⟩, ⟨z24_⟩⟩
     ·rw [if_neg c23] at H
      have c23b0 : (t246 == 0) = false := beq_eq_false_iff_ne.mpr c23
      have c23b1 : (t246 != 0) = true := bne_iff_ne.mpr c23
      (first | rw [c23b0] | (simp only [i64_w, i32_w]; rw [c23b0]) | skip)
      have H' := a_ H
      clear H
      go_wp2
      go_meet
      case rel => exact ⟨_, (true), z68_, H', ⟨by have := HJ5.out; first | omega | exact Nat.le_refl _⟩, ⟨by (with_reducible repeat (first | apply Kd.R_alloc | apply Kd.R_drewN | apply Kd.R_drew)); exact Kd.R_mono (Kd.R_far (p := ⟨gb257, 5, none⟩) (Kd.R_far (p := ⟨gb257, 4, none⟩) (Kd.R_far (p := ⟨gb257, 3, none⟩) (Kd.R_far (p := ⟨gb257, 2, none⟩) (Kd.R_far (p := ⟨gb257, 1, none⟩) (Kd.R_far (p := ⟨gb257, 0, none⟩) (Kd.R_types HO244.out BK257.out (by decide)) (fun _ hk => hk.2) (.string t248)) (fun _ hk => hk.2) (.string t249)) (fun _ hk => hk.2) (.int .u64 t250)) (fun _ hk => hk.2) (.int .i64 t251)) (fun _ hk => hk.2) (.slice Ao22 t252.length co22)) (fun _ hk => hk.2) (.int .i64 t255)) (fun _ hk => hk.1.2)⟩, ⟨by (with_reducible repeat (first | apply Kd.R_alloc | apply Kd.R_drewN | apply Kd.R_drew)); exact Kd.R_mono (Kd.R_far (p := ⟨gb257, 5, none⟩) (Kd.R_far (p := ⟨gb257, 4, none⟩) (Kd.R_far (p := ⟨gb257, 3, none⟩) (Kd.R_far (p := ⟨gb257, 2, none⟩) (Kd.R_far (p := ⟨gb257, 1, none⟩) (Kd.R_far (p := ⟨gb257, 0, none⟩) (Kd.R_types HO254.out BK257.out (by decide)) (fun _ hk => hk.2) (.string t248)) (fun _ hk => hk.2) (.string t249)) (fun _ hk => hk.2) (.int .u64 t250)) (fun _ hk => hk.2) (.int .i64 t251)) (fun _ hk => hk.2) (.slice Ao22 t252.length co22)) (fun _ hk => hk.2) (.int .i64 t255)) (fun _ hk => hk.1.2)⟩, ⟨by (with_reducible repeat (first | refine kN_ ?_ _ | refine kD_ ?_ | refine kA_ ?_ _)); refine blk_far ?_ NB247_257.out _; (with_reducible repeat (first | refine kN_ ?_ _ | refine kD_ ?_ | refine kA_ ?_ _)); refine blk_far ?_ NB247_257.out _; (with_reducible repeat (first | refine kN_ ?_ _ | refine kD_ ?_ | refine kA_ ?_ _)); refine blk_far ?_ NB247_257.out _; (with_reducible repeat (first | refine kN_ ?_ _ | refine kD_ ?_ | refine kA_ ?_ _)); refine blk_far ?_ NB247_257.out _; (with_reducible repeat (first | refine kN_ ?_ _ | refine kD_ ?_ | refine kA_ ?_ _)); refine blk_far ?_ NB247_257.out _; (with_reducible repeat (first | refine kN_ ?_ _ | refine kD_ ?_ | refine kA_ ?_ _)); refine blk_far ?_ NB247_257.out _; (with_reducible repeat (first | refine kN_ ?_ _ | refine kD_ ?_ | refine kA_ ?_ _)); exact BK247.out⟩, ⟨by (with_reducible repeat (first | refine kN_ ?_ _ | refine kD_ ?_ | refine kA_ ?_ _)); refine blk_put (cs := #[.string t248, .string t249, .int .u64 t250, .int .i64 t251, .slice Ao22 t252.length co22, .int .i64 0]) ?_ 5 _ rfl; (with_reducible repeat (first | refine kN_ ?_ _ | refine kD_ ?_ | refine kA_ ?_ _)); refine blk_put (cs := #[.string t248, .string t249, .int .u64 t250, .int .i64 t251, .slice none 0 0, .int .i64 0]) ?_ 4 _ rfl; (with_reducible repeat (first | refine kN_ ?_ _ | refine kD_ ?_ | refine kA_ ?_ _)); refine blk_put (cs := #[.string t248, .string t249, .int .u64 t250, .int .i64 0, .slice none 0 0, .int .i64 0]) ?_ 3 _ rfl; (with_reducible repeat (first | refine kN_ ?_ _ | refine kD_ ?_ | refine kA_ ?_ _)); refine blk_put (cs := #[.string t248, .string t249, .int .u64 0, .int .i64 0, .slice none 0 0, .int .i64 0]) ?_ 2 _ rfl; (with_reducible repeat (first | refine kN_ ?_ _ | refine kD_ ?_ | refine kA_ ?_ _)); refine blk_put (cs := #[.string t248, .string (⟨#[]⟩ : ByteArray), .int .u64 0, .int .i64 0, .slice none 0 0, .int .i64 0]) ?_ 1 _ rfl; (with_reducible repeat (first | refine kN_ ?_ _ | refine kD_ ?_ | refine kA_ ?_ _)); refine blk_put (cs := #[.string (⟨#[]⟩ : ByteArray), .string (⟨#[]⟩ : ByteArray), .int .u64 0, .int .i64 0, .slice none 0 0, .int .i64 0]) ?_ 0 _ rfl; (with_reducible repeat (first | refine kN_ ?_ _ | refine kD_ ?_ | refine kA_ ?_ _)); exact BK257.out⟩, ⟨z24_⟩⟩
    case rest =>
     clear HC13
     try clear c1
     try clear c2
     try clear p2
     try clear c6
     try clear c8
     try clear c9
     try clear c10
     try clear c20
     try clear c23
     try clear c23b0
     try clear c23b1
     try clear hcz16_0
     try clear hcz16_1
     try clear hcz16_2
     try clear hcz16_3
     try clear hcz16_4
     try clear hcz16_5
     try clear hcz21_0
     try clear hcz21_1
     try clear hcz21_2
     try clear hcz21_3
     try clear hcz21_4
     try clear hcz21_5
     try clear hfz16_0
     try clear hfz16_1
     try clear hfz16_2
     try clear hfz16_3
     try clear hfz16_4
     try clear hfz16_5
     try clear hfz21_0
     try clear hfz21_1
     try clear hfz21_2
     try clear hfz21_3
     try clear hfz21_4
     try clear hfz21_5
     try clear p2
     obtain ⟨kq, x49_12, rfl, HA, HJ12, HO_248004, HO_258004, BK247, BK257, HB⟩ := hcut
     cases kq with
     | zero => exact absurd HA.out (by simp [cambistlaw19_SlipDays.j1])
     | succ kj12 =>
      have H := HA.out
      clear HA
      simp only [cambistlaw19_SlipDays.j1] at H
      by_cases c24 : x49_12 = true
      ·subst c24
       have H1 : (some t236) = some r := by rw [if_pos rfl] at H; exact H
       clear H
       have H := H1
       clear H1
       obtain rfl := Option.some.inj H
       go_wp2
       go_ret
       exact ⟨z61_, z24_⟩
      ·replace c24 := Bool.eq_false_iff.mpr c24
       subst c24
       have H1 : ((journal_Sum.f l0 a1 a2 0 (IntKind.u64.wrap (a3 + 1))).bind fun bt258 => ((journal_Sum.f l0 a1 a2 a3 (IntKind.u64.wrap (a3 + 1))).bind fun bt260 => (if t236 = true then (if t245 = t251 then (if bt258.1 = t245 then (if bt258.2 = 0 then (if bt260.2 = 0 then (some (bt260.1 == (wrap64 (t245 - t241)))) else (some true)) else (none)) else (none)) else (none)) else (none)))) = some r := by rw [if_neg (show ¬ (false = true) by decide)] at H; exact H
       clear H
       have H := H1
       clear H1
       replace H := Option.bind_eq_some_iff.mp H
       obtain ⟨⟨t258, t259⟩, A250, H⟩ := H
       replace H : ((journal_Sum.f l0 a1 a2 a3 (IntKind.u64.wrap (a3 + 1))).bind fun bt260 => (if t236 = true then (if t245 = t251 then (if t258 = t245 then (if t259 = 0 then (if bt260.2 = 0 then (some (bt260.1 == (wrap64 (t245 - t241)))) else (some true)) else (none)) else (none)) else (none)) else (none))) = some r := H
       have A25 := a_ A250
       clear A250
       replace H := Option.bind_eq_some_iff.mp H
       obtain ⟨⟨t260, t261⟩, A260, H⟩ := H
       replace H : (if t236 = true then (if t245 = t251 then (if t258 = t245 then (if t259 = 0 then (if t261 = 0 then (some (t260 == (wrap64 (t245 - t241)))) else (some true)) else (none)) else (none)) else (none)) else (none)) = some r := H
       have A26 := a_ A260
       clear A260
       by_cases c27 : t236 = true
       ·subst c27
        have H1 : (if t245 = t251 then (if t258 = t245 then (if t259 = 0 then (if t261 = 0 then (some (t260 == (wrap64 (t245 - t241)))) else (some true)) else (none)) else (none)) else (none)) = some r := by rw [if_pos rfl] at H; exact H
        clear H
        have H := H1
        clear H1
        by_cases c28 : t245 = t251
        ·rw [if_pos c28] at H
         have c28b0 : (t245 == t251) = true := beq_iff_eq.mpr c28
         have c28b1 : (t245 != t251) = false := bne_eq_false_iff_eq.mpr c28
         clear c28
         by_cases c29 : t258 = t245
         ·rw [if_pos c29] at H
          have c29b0 : (t258 == t245) = true := beq_iff_eq.mpr c29
          have c29b1 : (t258 != t245) = false := bne_eq_false_iff_eq.mpr c29
          clear c29
          by_cases c30 : t259 = 0
          ·rw [if_pos c30] at H
           have c30b0 : (t259 == 0) = true := beq_iff_eq.mpr c30
           have c30b1 : (t259 != 0) = false := bne_eq_false_iff_eq.mpr c30
           clear c30
           by_cases c31 : t261 = 0
           ·rw [if_pos c31] at H
            have c31b0 : (t261 == 0) = true := beq_iff_eq.mpr c31
            have c31b1 : (t261 != 0) = false := bne_eq_false_iff_eq.mpr c31
            clear c31
            obtain rfl := Option.some.inj H
            go_wp2_with (first | ((with_reducible refine gate_callee (f := 17) rfl ?_); refine goesL_ (some 57) rfl rfl Tryd.func17 z71_ rfl #[.slice A0 l0.length c0, .string a1, .string a2, .int .u64 0, .int .u64 (IntKind.u64.wrap (a3 + 1))] rfl z26_ ?_; (with_reducible refine (journal_Sum.calls _ _ l0 a1 a2 0 (IntKind.u64.wrap (a3 + 1)) t258 t259 _ ?side1 ?side2 ?side3 A25.out).mono ?_); (case side1 => exact Glob.below HG.out z24_); (case side2 => repeat (first | exact (Kd.C_below HR0.out HB.out) | (with_reducible refine Kd.C_alloc ?_ _) | (with_reducible refine Kd.C_drewN ?_ _) | (with_reducible refine Kd.C_drew ?_))); (case side3 => exact HC0.out); rintro e w32 ⟨rfl, hb⟩; refine ⟨_, rfl, ?_⟩; have n0_ := a_ (Kd.R_below z39_ hb); have n1_ := a_ (Kd.R_below z40_ hb); have n2_ := a_ (blk_below (g := gb247) (o := .cells #[.string t238, .string t239, .int .u64 t240, .int .i64 t241, .slice Ao17 t242.length co17, .int .i64 t245] 28 (0, 0)) z59_ hb); have n3_ := a_ (blk_below (g := gb257) (o := .cells #[.string t248, .string t249, .int .u64 t250, .int .i64 t251, .slice Ao22 t252.length co22, .int .i64 t255] 28 (0, 0)) z60_ hb); have n4_ := a_ (below_step z24_ hb); clear HO_248004; clear HO_258004; clear BK247; clear BK257; clear HB; have HO_248004 := n0_; have HO_258004 := n1_; have BK247 := n2_; have BK257 := n3_; have HB := n4_; clear n0_ n1_ n2_ n3_ n4_; (try clear hb); (try clear hb2); (try clear hk); (try clear hi)) | ((with_reducible refine gate_callee (f := 17) rfl ?_); refine goesL_ (some 67) rfl rfl Tryd.func17 z71_ rfl #[.slice A0 l0.length c0, .string a1, .string a2, .int .u64 a3, .int .u64 (IntKind.u64.wrap (a3 + 1))] rfl z26_ ?_; (with_reducible refine (journal_Sum.calls _ _ l0 a1 a2 a3 (IntKind.u64.wrap (a3 + 1)) t260 t261 _ ?side1 ?side2 ?side3 A26.out).mono ?_); (case side1 => exact Glob.below HG.out z24_); (case side2 => repeat (first | exact (Kd.C_below HR0.out HB.out) | (with_reducible refine Kd.C_alloc ?_ _) | (with_reducible refine Kd.C_drewN ?_ _) | (with_reducible refine Kd.C_drew ?_))); (case side3 => exact HC0.out); rintro e w33 ⟨rfl, hb⟩; refine ⟨_, rfl, ?_⟩; have n0_ := a_ (Kd.R_below z39_ hb); have n1_ := a_ (Kd.R_below z40_ hb); have n2_ := a_ (blk_below (g := gb247) (o := .cells #[.string t238, .string t239, .int .u64 t240, .int .i64 t241, .slice Ao17 t242.length co17, .int .i64 t245] 28 (0, 0)) z59_ hb); have n3_ := a_ (blk_below (g := gb257) (o := .cells #[.string t248, .string t249, .int .u64 t250, .int .i64 t251, .slice Ao22 t252.length co22, .int .i64 t255] 28 (0, 0)) z60_ hb); have n4_ := a_ (below_step z24_ hb); clear HO_248004; clear HO_258004; clear BK247; clear BK257; clear HB; have HO_248004 := n0_; have HO_258004 := n1_; have BK247 := n2_; have BK257 := n3_; have HB := n4_; clear n0_ n1_ n2_ n3_ n4_; (try clear hb); (try clear hb2); (try clear hk); (try clear hi); have hnb34 := NB247_257.out; have hnc34 := NB257_247.out; have hcz35_0 : w33.cell? ⟨gb247, 0, none⟩ = some (.string t238) := (blk_cell BK247.out 0).trans rfl; have hcz35_1 : w33.cell? ⟨gb247, 1, none⟩ = some (.string t239) := (blk_cell BK247.out 1).trans rfl; have hcz35_2 : w33.cell? ⟨gb247, 2, none⟩ = some (.int .u64 t240) := (blk_cell BK247.out 2).trans rfl; have hcz35_3 : w33.cell? ⟨gb247, 3, none⟩ = some (.int .i64 t241) := (blk_cell BK247.out 3).trans rfl; have hcz35_4 : w33.cell? ⟨gb247, 4, none⟩ = some (.slice Ao17 t242.length co17) := (blk_cell BK247.out 4).trans rfl; have hcz35_5 : w33.cell? ⟨gb247, 5, none⟩ = some (.int .i64 t245) := (blk_cell BK247.out 5).trans rfl; have hfz35_0 := blk_frozen BK247.out 0; have hfz35_1 := blk_frozen BK247.out 1; have hfz35_2 := blk_frozen BK247.out 2; have hfz35_3 := blk_frozen BK247.out 3; have hfz35_4 := blk_frozen BK247.out 4; have hfz35_5 := blk_frozen BK247.out 5; have hcz36_0 : w33.cell? ⟨gb257, 0, none⟩ = some (.string t248) := (blk_cell BK257.out 0).trans rfl; have hcz36_1 : w33.cell? ⟨gb257, 1, none⟩ = some (.string t249) := (blk_cell BK257.out 1).trans rfl; have hcz36_2 : w33.cell? ⟨gb257, 2, none⟩ = some (.int .u64 t250) := (blk_cell BK257.out 2).trans rfl; have hcz36_3 : w33.cell? ⟨gb257, 3, none⟩ = some (.int .i64 t251) := (blk_cell BK257.out 3).trans rfl; have hcz36_4 : w33.cell? ⟨gb257, 4, none⟩ = some (.slice Ao22 t252.length co22) := (blk_cell BK257.out 4).trans rfl; have hcz36_5 : w33.cell? ⟨gb257, 5, none⟩ = some (.int .i64 t255) := (blk_cell BK257.out 5).trans rfl; have hfz36_0 := blk_frozen BK257.out 0; have hfz36_1 := blk_frozen BK257.out 1; have hfz36_2 := blk_frozen BK257.out 2; have hfz36_3 := blk_frozen BK257.out 3; have hfz36_4 := blk_frozen BK257.out 4; have hfz36_5 := blk_frozen BK257.out 5))
            go_ret
            exact ⟨z61_, z24_⟩
           ·rw [if_neg c31] at H
            have c31b0 : (t261 == 0) = false := beq_eq_false_iff_ne.mpr c31
            have c31b1 : (t261 != 0) = true := bne_iff_ne.mpr c31
            obtain rfl := Option.some.inj H
            go_wp2_with (first | ((with_reducible refine gate_callee (f := 17) rfl ?_); refine goesL_ (some 57) rfl rfl Tryd.func17 z71_ rfl #[.slice A0 l0.length c0, .string a1, .string a2, .int .u64 0, .int .u64 (IntKind.u64.wrap (a3 + 1))] rfl z26_ ?_; (with_reducible refine (journal_Sum.calls _ _ l0 a1 a2 0 (IntKind.u64.wrap (a3 + 1)) t258 t259 _ ?side1 ?side2 ?side3 A25.out).mono ?_); (case side1 => exact Glob.below HG.out z24_); (case side2 => repeat (first | exact (Kd.C_below HR0.out HB.out) | (with_reducible refine Kd.C_alloc ?_ _) | (with_reducible refine Kd.C_drewN ?_ _) | (with_reducible refine Kd.C_drew ?_))); (case side3 => exact HC0.out); rintro e w37 ⟨rfl, hb⟩; refine ⟨_, rfl, ?_⟩; have n0_ := a_ (Kd.R_below z39_ hb); have n1_ := a_ (Kd.R_below z40_ hb); have n2_ := a_ (blk_below (g := gb247) (o := .cells #[.string t238, .string t239, .int .u64 t240, .int .i64 t241, .slice Ao17 t242.length co17, .int .i64 t245] 28 (0, 0)) z59_ hb); have n3_ := a_ (blk_below (g := gb257) (o := .cells #[.string t248, .string t249, .int .u64 t250, .int .i64 t251, .slice Ao22 t252.length co22, .int .i64 t255] 28 (0, 0)) z60_ hb); have n4_ := a_ (below_step z24_ hb); clear HO_248004; clear HO_258004; clear BK247; clear BK257; clear HB; have HO_248004 := n0_; have HO_258004 := n1_; have BK247 := n2_; have BK257 := n3_; have HB := n4_; clear n0_ n1_ n2_ n3_ n4_; (try clear hb); (try clear hb2); (try clear hk); (try clear hi)) | ((with_reducible refine gate_callee (f := 17) rfl ?_); refine goesL_ (some 67) rfl rfl Tryd.func17 z71_ rfl #[.slice A0 l0.length c0, .string a1, .string a2, .int .u64 a3, .int .u64 (IntKind.u64.wrap (a3 + 1))] rfl z26_ ?_; (with_reducible refine (journal_Sum.calls _ _ l0 a1 a2 a3 (IntKind.u64.wrap (a3 + 1)) t260 t261 _ ?side1 ?side2 ?side3 A26.out).mono ?_); (case side1 => exact Glob.below HG.out z24_); (case side2 => repeat (first | exact (Kd.C_below HR0.out HB.out) | (with_reducible refine Kd.C_alloc ?_ _) | (with_reducible refine Kd.C_drewN ?_ _) | (with_reducible refine Kd.C_drew ?_))); (case side3 => exact HC0.out); rintro e w38 ⟨rfl, hb⟩; refine ⟨_, rfl, ?_⟩; have n0_ := a_ (Kd.R_below z39_ hb); have n1_ := a_ (Kd.R_below z40_ hb); have n2_ := a_ (blk_below (g := gb247) (o := .cells #[.string t238, .string t239, .int .u64 t240, .int .i64 t241, .slice Ao17 t242.length co17, .int .i64 t245] 28 (0, 0)) z59_ hb); have n3_ := a_ (blk_below (g := gb257) (o := .cells #[.string t248, .string t249, .int .u64 t250, .int .i64 t251, .slice Ao22 t252.length co22, .int .i64 t255] 28 (0, 0)) z60_ hb); have n4_ := a_ (below_step z24_ hb); clear HO_248004; clear HO_258004; clear BK247; clear BK257; clear HB; have HO_248004 := n0_; have HO_258004 := n1_; have BK247 := n2_; have BK257 := n3_; have HB := n4_; clear n0_ n1_ n2_ n3_ n4_; (try clear hb); (try clear hb2); (try clear hk); (try clear hi); have hnb39 := NB247_257.out; have hnc39 := NB257_247.out; have hcz40_0 : w38.cell? ⟨gb247, 0, none⟩ = some (.string t238) := (blk_cell BK247.out 0).trans rfl; have hcz40_1 : w38.cell? ⟨gb247, 1, none⟩ = some (.string t239) := (blk_cell BK247.out 1).trans rfl; have hcz40_2 : w38.cell? ⟨gb247, 2, none⟩ = some (.int .u64 t240) := (blk_cell BK247.out 2).trans rfl; have hcz40_3 : w38.cell? ⟨gb247, 3, none⟩ = some (.int .i64 t241) := (blk_cell BK247.out 3).trans rfl; have hcz40_4 : w38.cell? ⟨gb247, 4, none⟩ = some (.slice Ao17 t242.length co17) := (blk_cell BK247.out 4).trans rfl; have hcz40_5 : w38.cell? ⟨gb247, 5, none⟩ = some (.int .i64 t245) := (blk_cell BK247.out 5).trans rfl; have hfz40_0 := blk_frozen BK247.out 0; have hfz40_1 := blk_frozen BK247.out 1; have hfz40_2 := blk_frozen BK247.out 2; have hfz40_3 := blk_frozen BK247.out 3; have hfz40_4 := blk_frozen BK247.out 4; have hfz40_5 := blk_frozen BK247.out 5; have hcz41_0 : w38.cell? ⟨gb257, 0, none⟩ = some (.string t248) := (blk_cell BK257.out 0).trans rfl; have hcz41_1 : w38.cell? ⟨gb257, 1, none⟩ = some (.string t249) := (blk_cell BK257.out 1).trans rfl; have hcz41_2 : w38.cell? ⟨gb257, 2, none⟩ = some (.int .u64 t250) := (blk_cell BK257.out 2).trans rfl; have hcz41_3 : w38.cell? ⟨gb257, 3, none⟩ = some (.int .i64 t251) := (blk_cell BK257.out 3).trans rfl; have hcz41_4 : w38.cell? ⟨gb257, 4, none⟩ = some (.slice Ao22 t252.length co22) := (blk_cell BK257.out 4).trans rfl; have hcz41_5 : w38.cell? ⟨gb257, 5, none⟩ = some (.int .i64 t255) := (blk_cell BK257.out 5).trans rfl; have hfz41_0 := blk_frozen BK257.out 0; have hfz41_1 := blk_frozen BK257.out 1; have hfz41_2 := blk_frozen BK257.out 2; have hfz41_3 := blk_frozen BK257.out 3; have hfz41_4 := blk_frozen BK257.out 4; have hfz41_5 := blk_frozen BK257.out 5))
            go_ret
            exact ⟨z61_, z24_⟩
          ·rw [if_neg c30] at H
           exact absurd H (by simp)
         ·rw [if_neg c29] at H
          exact absurd H (by simp)
        ·rw [if_neg c28] at H
         exact absurd H (by simp)
       ·replace c27 := Bool.eq_false_iff.mpr c27
        subst c27
        have H1 : (none) = some r := by rw [if_neg (show ¬ (false = true) by decide)] at H; exact H
        clear H
        have H := H1
        clear H1
        exact absurd H (by simp)

end Go.Proofs.YtnngbnhbmgdkoaaDoor.P
