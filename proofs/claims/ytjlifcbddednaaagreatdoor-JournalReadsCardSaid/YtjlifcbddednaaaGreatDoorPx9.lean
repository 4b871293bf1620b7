-- Laid by wip/tools/cprint.py of this claim's own repo (over the kit's print).
import Derived.Test.YtjlifcbddednaaaGreatDoorSq
import Derived.Test.YtjlifcbddednaaaGreatDoorPx0
import Derived.Test.YtjlifcbddednaaaGreatDoorPx7
import Derived.Test.YtjlifcbddednaaaGreatDoorPx8
namespace Go.Proofs.YtjlifcbddednaaaGreatDoor.P
open Go.RowKit Go.Proofs.YtjlifcbddednaaaGreatDoor.E Go.Proofs.YtjlifcbddednaaaGreatDoorW.PrintWords Go.Proofs.YtjlifcbddednaaaGreatDoorW.PrintLast
set_option linter.unusedVariables false
set_option linter.unusedSimpArgs false

/-! ### cambistref12_guess: function 14 -/
mutual
def cambistref12_guess.j0 : Nat → List (S26) → List ByteArray → List ByteArray → Bool → Option (Int × Int × ByteArray × (List (S36)) × Int × Bool)
 | 0, _, _, _, _ => none
 | k + 1, x0, x5, x6, x35 => if x35 = true then (some (0, 0, (⟨#[]⟩ : ByteArray), ([] : List (S36)), 0, false)) else (if 1 < (x5.length : Int) then ((cambistref02_Number.f k (rdOf ByteArray.empty x5 1)).bind fun bt239 => (if 0 < (x6.length : Int) then ((cambistref02_Number.f k (rdOf ByteArray.empty x6 0)).bind fun bt242 => (if 2 < (x6.length : Int) then ((cambistref01_Parse.f k (rdOf ByteArray.empty x6 2)).bind fun bt245 => (if bt239.2 = 0 then (if bt242.2 = 0 then (if bt245.2 = 0 then (if bt245.1 < 0 then (cambistref12_guess.j1 k x0 x6 bt239.1 bt242.1 bt245.1 true) else (cambistref12_guess.j1 k x0 x6 bt239.1 bt242.1 bt245.1 (decide (bt245.1 > (wrap64 ((x0.length : Int) - 1)))))) else (cambistref12_guess.j1 k x0 x6 bt239.1 bt242.1 bt245.1 true)) else (cambistref12_guess.j1 k x0 x6 bt239.1 bt242.1 bt245.1 true)) else (cambistref12_guess.j1 k x0 x6 bt239.1 bt242.1 bt245.1 true))) else (none))) else (none))) else (none))
def cambistref12_guess.j1 : Nat → List (S26) → List ByteArray → Int → Int → Int → Bool → Option (Int × Int × ByteArray × (List (S36)) × Int × Bool)
 | 0, _, _, _, _, _, _ => none
 | k + 1, x0, x6, x7, x9, x11, x78 => if x78 = true then (some (0, 0, (⟨#[]⟩ : ByteArray), ([] : List (S36)), 0, false)) else (if 1 < (x6.length : Int) then (cambistref12_guess.l0 k x0 x11 1 x7 x9 (rdOf ByteArray.empty x6 1) ([] : List (S36))) else (none))
def cambistref12_guess.l0 : Nat → List (S26) → Int → Int → Int → Int → ByteArray → List (S36) → Option (Int × Int × ByteArray × (List (S36)) × Int × Bool)
 | 0, _, _, _, _, _, _, _ => none
 | k + 1, x0, x11, x14, x249000, x249001, x249002, x249003 => if x14 ≤ x11 then (if 0 ≤ x14 then (if x14 < (x0.length : Int) then ((cambistref12_Parts.f k ((rd_T26 x0 x14).f1)).bind fun t250 => (if (t250.length : Int) = 3 then (if 2 < (t250.length : Int) then ((cambistref01_Parse.f k (rdOf ByteArray.empty t250 2)).bind fun bt254 => (if bt254.2 = 0 then (if 0 < (t250.length : Int) then (if 1 < (t250.length : Int) then (if x249003.length < 3518437208883 then (cambistref12_guess.l0 k x0 x11 (wrap64 (x14 + 1)) x249000 x249001 x249002 (x249003 ++ [(⟨rdOf ByteArray.empty t250 0, rdOf ByteArray.empty t250 1, bt254.1⟩ : S36)])) else (none)) else (none)) else (none)) else (some (0, 0, (⟨#[]⟩ : ByteArray), ([] : List (S36)), 0, false)))) else (none)) else (some (0, 0, (⟨#[]⟩ : ByteArray), ([] : List (S36)), 0, false)))) else (none)) else (none)) else (some (x249000, x249001, x249002, x249003, wrap64 (x11 + 1), true))
end
def cambistref12_guess.f (k : Nat) (l0 : List (S26)) : Option (Int × Int × ByteArray × (List (S36)) × Int × Bool) := if 0 < (l0.length : Int) then ((cambistref12_Parts.f k ((rd_T26 l0 0).f0)).bind fun t231 => ((cambistref12_Parts.f k ((rd_T26 l0 0).f1)).bind fun t235 => (if (t231.length : Int) = 3 then (cambistref12_guess.j0 k l0 t231 t235 ((t235.length : Int) != 3)) else (cambistref12_guess.j0 k l0 t231 t235 true)))) else (none)
theorem cambistref12_guess.mono_l : ∀ k, (∀ y0 y1 y2 y3, LeO (cambistref12_guess.j0 k y0 y1 y2 y3) (cambistref12_guess.j0 (k + 1) y0 y1 y2 y3)) ∧ (∀ y0 y1 y2 y3 y4 y5, LeO (cambistref12_guess.j1 k y0 y1 y2 y3 y4 y5) (cambistref12_guess.j1 (k + 1) y0 y1 y2 y3 y4 y5)) ∧ (∀ y0 y1 y2 y3 y4 y5 y6, LeO (cambistref12_guess.l0 k y0 y1 y2 y3 y4 y5 y6) (cambistref12_guess.l0 (k + 1) y0 y1 y2 y3 y4 y5 y6))
 | 0 => ⟨fun _ _ _ _ r h => by simp [cambistref12_guess.j0] at h, fun _ _ _ _ _ _ r h => by simp [cambistref12_guess.j1] at h, fun _ _ _ _ _ _ _ r h => by simp [cambistref12_guess.l0] at h⟩
 | k + 1 => by
  obtain ⟨ih0, ih1, ih2⟩ := cambistref12_guess.mono_l k
  refine ⟨?_, ?_, ?_⟩
  ·intro y0 y1 y2 y3
   unfold cambistref12_guess.j0
   repeat' first
   | (with_reducible exact ih0 _ _ _ _)
   | (with_reducible exact ih1 _ _ _ _ _ _)
   | (with_reducible exact ih2 _ _ _ _ _ _ _)
   | (with_reducible exact cambistref01_Parse.mono _ _)
   | (with_reducible exact cambistref02_Number.mono _ _)
   | (with_reducible exact cambistref12_Parts.mono _ _)
   | (with_reducible first | exact LeO.refl _ | exact LeO.none _ | refine LeO.ite ?_ ?_ | refine LeO.bind ?_ fun _ => ?_)
   | exact ih0 _ _ _ _
   | exact ih1 _ _ _ _ _ _
   | exact ih2 _ _ _ _ _ _ _
   | exact cambistref01_Parse.mono _ _
   | exact cambistref02_Number.mono _ _
   | exact cambistref12_Parts.mono _ _
  ·intro y0 y1 y2 y3 y4 y5
   unfold cambistref12_guess.j1
   repeat' first
   | (with_reducible exact ih0 _ _ _ _)
   | (with_reducible exact ih1 _ _ _ _ _ _)
   | (with_reducible exact ih2 _ _ _ _ _ _ _)
   | (with_reducible exact cambistref01_Parse.mono _ _)
   | (with_reducible exact cambistref02_Number.mono _ _)
   | (with_reducible exact cambistref12_Parts.mono _ _)
   | (with_reducible first | exact LeO.refl _ | exact LeO.none _ | refine LeO.ite ?_ ?_ | refine LeO.bind ?_ fun _ => ?_)
   | exact ih0 _ _ _ _
   | exact ih1 _ _ _ _ _ _
   | exact ih2 _ _ _ _ _ _ _
   | exact cambistref01_Parse.mono _ _
   | exact cambistref02_Number.mono _ _
   | exact cambistref12_Parts.mono _ _
  ·intro y0 y1 y2 y3 y4 y5 y6
   unfold cambistref12_guess.l0
   repeat' first
   | (with_reducible exact ih0 _ _ _ _)
   | (with_reducible exact ih1 _ _ _ _ _ _)
   | (with_reducible exact ih2 _ _ _ _ _ _ _)
   | (with_reducible exact cambistref01_Parse.mono _ _)
   | (with_reducible exact cambistref02_Number.mono _ _)
   | (with_reducible exact cambistref12_Parts.mono _ _)
   | (with_reducible first | exact LeO.refl _ | exact LeO.none _ | refine LeO.ite ?_ ?_ | refine LeO.bind ?_ fun _ => ?_)
   | exact ih0 _ _ _ _
   | exact ih1 _ _ _ _ _ _
   | exact ih2 _ _ _ _ _ _ _
   | exact cambistref01_Parse.mono _ _
   | exact cambistref02_Number.mono _ _
   | exact cambistref12_Parts.mono _ _
theorem cambistref12_guess.mono : ∀ a0 k, LeO (cambistref12_guess.f k a0) (cambistref12_guess.f (k + 1) a0) := by
 intro a0 k
 obtain ⟨ih0, ih1, ih2⟩ := cambistref12_guess.mono_l k
 unfold cambistref12_guess.f
 repeat' first
   | (with_reducible exact ih0 _ _ _ _)
   | (with_reducible exact ih1 _ _ _ _ _ _)
   | (with_reducible exact ih2 _ _ _ _ _ _ _)
   | (with_reducible exact cambistref01_Parse.mono _ _)
   | (with_reducible exact cambistref02_Number.mono _ _)
   | (with_reducible exact cambistref12_Parts.mono _ _)
   | (with_reducible first | exact LeO.refl _ | exact LeO.none _ | refine LeO.ite ?_ ?_ | refine LeO.bind ?_ fun _ => ?_)
   | exact ih0 _ _ _ _
   | exact ih1 _ _ _ _ _ _
   | exact ih2 _ _ _ _ _ _ _
   | exact cambistref01_Parse.mono _ _
   | exact cambistref02_Number.mono _ _
   | exact cambistref12_Parts.mono _ _
def cambistref12_guess.T20 : Bool × List (List Nat × List Nat) := (true, [([], []), ([0], [0]), ([], []), ([2], [2]), ([3], [3]), ([], []), ([5], [5]), ([6], [6]), ([], []), ([4, 7, 8], [4, 7, 8]), ([9], [9]), ([1, 10], [1, 10]), ([0, 1, 2, 3, 4, 5, 6, 7, 8, 9, 10, 11], []), ([12, 11, 11, 0, 1, 2, 3, 4, 5, 6, 7, 8, 9, 10, 11], [11, 12])])
def cambistref12_guess.B20 : List Nat := [0, 1, 0, 4, 12, 0, 32, 96, 0, 508, 1020, 2047, 4095, 8191]
theorem cambistref12_guess.tab20 : rtab .any (opsOf Tryz.f14 20) = cambistref12_guess.T20 := by kernel_rfl
theorem cambistref12_guess.bits20 : waitsOk cambistref12_guess.T20.2 cambistref12_guess.B20 = true := by kernel_rfl
set_option maxHeartbeats 8000000 in
set_option maxRecDepth 100000 in
theorem cambistref12_guess.calls (k : Nat) (A0 : Option Addr) (c0 : Nat) (l0 : List (S26)) (r1 : Int) (r2 : Int) (r3 : ByteArray) (r4 : List (S36)) (r5 : Int) (r6 : Bool) (w : World) (hG : Glob w) (hr0 : Kd.C k26 w A0 l0.length l0) (hc0 : l0.length ≤ c0) (h : cambistref12_guess.f k l0 = some (r1, r2, r3, r4, r5, r6)) :
  Calls Tryz.prog 14 #[.slice A0 l0.length c0] w fun e w' => ∃ v3_ : Value, e = .returned (.tuple #[.agg #[.int .u64 r1, .int .u64 r2, .string r3, v3_], .int .i64 r5, .bool r6]) ∧ Kd.R k36 36 w' w.heap.size (fun _ => True) v3_ r4 ∧ Below w.heap.size w w' := by
 have hu39 := Tryz.underlying39
 have hu36 := Tryz.underlying36
 have HG := a_ hG
 clear hG
 have HR0 := a_ hr0
 have HC0 := a_ hc0
 clear hr0 hc0
 have HB := a_ (Below.refl w.heap.size w)
 have H : (if 0 < (l0.length : Int) then ((cambistref12_Parts.f k ((rd_T26 l0 0).f0)).bind fun t231 => ((cambistref12_Parts.f k ((rd_T26 l0 0).f1)).bind fun t235 => (if (t231.length : Int) = 3 then (cambistref12_guess.j0 k l0 t231 t235 ((t235.length : Int) != 3)) else (cambistref12_guess.j0 k l0 t231 t235 true)))) else (none)) = some (r1, r2, r3, r4, r5, r6) := h
 clear h
 by_cases c2 : 0 < (l0.length : Int)
 ·rw [if_pos c2] at H
  have c2b0 : decide (0 < (l0.length : Int)) = true := decide_eq_true c2
  have c2b1 : decide (0 < l0.length) = true := decide_eq_true (by omega)
  clear c2
  replace H := Option.bind_eq_some_iff.mp H
  obtain ⟨t231, A30, H⟩ := H
  replace H : ((cambistref12_Parts.f k ((rd_T26 l0 0).f1)).bind fun t235 => (if (t231.length : Int) = 3 then (cambistref12_guess.j0 k l0 t231 t235 ((t235.length : Int) != 3)) else (cambistref12_guess.j0 k l0 t231 t235 true))) = some (r1, r2, r3, r4, r5, r6) := H
  have A3 := a_ A30
  clear A30
  replace H := Option.bind_eq_some_iff.mp H
  obtain ⟨t235, A40, H⟩ := H
  replace H : (if (t231.length : Int) = 3 then (cambistref12_guess.j0 k l0 t231 t235 ((t235.length : Int) != 3)) else (cambistref12_guess.j0 k l0 t231 t235 true)) = some (r1, r2, r3, r4, r5, r6) := H
  have A4 := a_ A40
  clear A40
  have HC5 := a_ H
  clear H
  go_enter Tryz.func14, Tryz.ntmps14
  go_upto_region 3 with (first | ((with_reducible refine gate_dst (N := 2) rfl ?_); (try (refine gate_guard (by rfl) ?_; dsimp only)); refine box_event ?hg (N := 2) ?hd (cs := #[.int .u64 0, .int .u64 0, .string (⟨#[]⟩ : ByteArray), .slice none 0 0]) (t := 39) ?hr ?_; (case hd => rfl); (case hg => rfl); (case hr => first | (go_simp; done) | (go_simp; rfl)); intro gb229 hg w6 hbox hb; have n0_ := a_ (below_step z33_ hb); have n1_ := a_ (hbox); have n2_ := a_ ((z20_ : w.heap.size ≤ gb229)); have n3_ := a_ ((z20_ : w.heap.size ≤ gb229)); clear HB; have HB := n0_; have BK229 := n1_; have GW229 := n2_; have GE229 := n3_; clear n0_ n1_ n2_ n3_; clear hb hbox hg; have p230 : 0 ≤ (0 : Int) := (by omega); have q230 : 0 < (l0.length : Int) := of_decide_eq_true z70_; obtain ⟨ad230, e230, hx230_0, hx230_1⟩ := at_T26 HR0.out 0 p230 q230; cases e230; have qi230 : (0 < l0.length) = True := eq_true (by omega); (try rw [show ((0 : Int)).toNat = 0 from rfl] at hx230_0); (try rw [show 0 * 2 = 0 from rfl] at hx230_0); (try rw [Addr.add_zero'] at hx230_0); (try rw [show ((0 : Int)).toNat = 0 from rfl] at hx230_1); (try rw [show 0 * 2 = 0 from rfl] at hx230_1); (try rw [Addr.add_zero'] at hx230_1); replace hx230_0 := (HB.out.cell (World.block_lt_of_cell? w _ hx230_0)).trans hx230_0; replace hx230_1 := (HB.out.cell (World.block_lt_of_cell? w _ hx230_1)).trans hx230_1; replace p230 := eq_true p230; replace q230 := eq_true q230) | ((with_reducible refine gate_callee (f := 31) rfl ?_); refine goesL_ (some 22) rfl rfl Tryz.func31 z74_ rfl #[.string ((rd_T26 l0 0).f0)] rfl z19_ ?_; (with_reducible refine (cambistref12_Parts.calls k ((rd_T26 l0 0).f0) t231 _ ?side1 A3.out).mono ?_); (case side1 => exact Glob.below HG.out z26_); rintro e w7 ⟨v232, rfl, ho0, hb⟩; refine ⟨_, rfl, ?_⟩; have n0_ := a_ (Kd.R_lower ho0 (below_size z26_)); have n1_ := a_ (blk_below (g := gb229) (o := .cells #[.int .u64 0, .int .u64 0, .string (⟨#[]⟩ : ByteArray), .slice none 0 0] 39 (0, 0)) z57_ hb); have n2_ := a_ (below_step z26_ hb); clear BK229; clear HB; have HO233 := n0_; have BK229 := n1_; have HB := n2_; clear n0_ n1_ n2_; (try clear hb); (try clear hb2); (try clear hk); (try clear hi); (try clear ho0); have p234 : 0 ≤ (0 : Int) := (by omega); have q234 : 0 < (l0.length : Int) := of_decide_eq_true z70_; obtain ⟨ad234, e234, hx234_0, hx234_1⟩ := at_T26 HR0.out 0 p234 q234; obtain rfl : ad230 = ad234 := (by injection e234); have qi234 : (0 < l0.length) = True := eq_true (by omega); (try rw [show ((0 : Int)).toNat = 0 from rfl] at hx234_0); (try rw [show 0 * 2 = 0 from rfl] at hx234_0); (try rw [Addr.add_zero'] at hx234_0); (try rw [show ((0 : Int)).toNat = 0 from rfl] at hx234_1); (try rw [show 0 * 2 = 0 from rfl] at hx234_1); (try rw [Addr.add_zero'] at hx234_1); replace hx234_0 := (HB.out.cell (World.block_lt_of_cell? w _ hx234_0)).trans hx234_0; replace hx234_1 := (HB.out.cell (World.block_lt_of_cell? w _ hx234_1)).trans hx234_1; replace p234 := eq_true p234; replace q234 := eq_true q234) | ((with_reducible refine gate_callee (f := 31) rfl ?_); refine goesL_ (some 27) rfl rfl Tryz.func31 z74_ rfl #[.string ((rd_T26 l0 0).f1)] rfl z19_ ?_; (with_reducible refine (cambistref12_Parts.calls k ((rd_T26 l0 0).f1) t235 _ ?side1 A4.out).mono ?_); (case side1 => exact Glob.below HG.out z26_); rintro e w8 ⟨v236, rfl, ho0, hb⟩; refine ⟨_, rfl, ?_⟩; have n0_ := a_ (Kd.R_elder' (by (with_reducible repeat (first | apply Kd.R_alloc | apply Kd.R_drewN | apply Kd.R_drew)); exact HO233.out) (Kd.R_base ho0) hb); have n1_ := a_ (Kd.R_lower (Kd.R_new' ho0 (Kd.R_lt (by (with_reducible repeat (first | apply Kd.R_alloc | apply Kd.R_drewN | apply Kd.R_drew)); exact HO233.out))) (below_size z26_)); have n2_ := a_ (blk_below (g := gb229) (o := .cells #[.int .u64 0, .int .u64 0, .string (⟨#[]⟩ : ByteArray), .slice none 0 0] 39 (0, 0)) z57_ hb); have n3_ := a_ (below_step z26_ hb); clear HO233; clear BK229; clear HB; have HO233 := n0_; have HO237 := n1_; have BK229 := n2_; have HB := n3_; clear n0_ n1_ n2_ n3_; (try clear hb); (try clear hb2); (try clear hk); (try clear hi); (try clear ho0)))
  (try simp only [Act.put, sT_, s0_, sS_])
  go_cut [35] (fun v35 wc => ∃ (kq : Nat) (x35_4 : Bool), v35 = .bool x35_4 ∧ Aside0 (cambistref12_guess.j0 kq l0 t231 t235 x35_4 = some (r1, r2, r3, r4, r5, r6)) ∧ Aside0 (kq ≤ k) ∧ Aside0 (Kd.R Kd.string 9 wc w.heap.size (fun k_ => some k_ ≠ (v236 : Value).ownBlock) v232 t231) ∧ Aside0 (Kd.R Kd.string 9 wc w.heap.size (fun k_ => some k_ ≠ (v232 : Value).ownBlock) v236 t235) ∧ Aside0 (wc.heap[gb229]? = some (.cells #[.int .u64 0, .int .u64 0, .string (⟨#[]⟩ : ByteArray), (.slice none 0 0)] 39 (0, 0))) ∧ Aside0 (Below w.heap.size w wc))
  case first =>
   have H := HC5.out
   clear HC5
   by_cases c9 : (t231.length : Int) = 3
   ·rw [if_pos c9] at H
    have c9b0 : ((t231.length : Int) == 3) = true := beq_iff_eq.mpr c9
    have c9b1 : ((t231.length : Int) != 3) = false := bne_eq_false_iff_eq.mpr c9
    clear c9
    (first | rw [c9b0] | (simp only [i64_w, i32_w]; rw [c9b0]) | skip)
    have H' := a_ H
    clear H
    obtain ⟨Ao10, co10, eo10⟩ := Kd.R_slice HO233.out
    subst eo10
    obtain ⟨Ao11, co11, eo11⟩ := Kd.R_slice HO237.out
    subst eo11
    go_wp2
    go_meet
    case rel => exact ⟨_, (((t235.length : Int) != 3)), z71_, H', ⟨z72_⟩, ⟨by (with_reducible repeat (first | apply Kd.R_alloc | apply Kd.R_drewN | apply Kd.R_drew)); exact Kd.R_mono HO233.out (fun _ hk => hk.2)⟩, ⟨by (with_reducible repeat (first | apply Kd.R_alloc | apply Kd.R_drewN | apply Kd.R_drew)); exact Kd.R_mono HO237.out (fun _ hk => hk.2)⟩, ⟨z57_⟩, ⟨z26_⟩⟩
   ·rw [if_neg c9] at H
    have c9b0 : ((t231.length : Int) == 3) = false := beq_eq_false_iff_ne.mpr c9
    have c9b1 : ((t231.length : Int) != 3) = true := bne_iff_ne.mpr c9
    (first | rw [c9b0] | (simp only [i64_w, i32_w]; rw [c9b0]) | skip)
    have H' := a_ H
    clear H
    obtain ⟨Ao12, co12, eo12⟩ := Kd.R_slice HO233.out
    subst eo12
    go_wp2
    go_meet
    case rel => exact ⟨_, (true), z71_, H', ⟨z72_⟩, ⟨by (with_reducible repeat (first | apply Kd.R_alloc | apply Kd.R_drewN | apply Kd.R_drew)); exact Kd.R_mono HO233.out (fun _ hk => hk.2)⟩, ⟨by (with_reducible repeat (first | apply Kd.R_alloc | apply Kd.R_drewN | apply Kd.R_drew)); exact Kd.R_mono HO237.out (fun _ hk => hk.2)⟩, ⟨z57_⟩, ⟨z26_⟩⟩
  case rest =>
   clear HC5
   try clear c1
   try clear c2
   try clear c2b0
   try clear c2b1
   try clear p2
   try clear q2
   try clear hx2
   try clear qi2
   try clear c3
   try clear c9
   try clear c9b0
   try clear c9b1
   try clear hx230_0
   try clear hx230_1
   try clear hx234_0
   try clear hx234_1
   try clear p230
   try clear p234
   try clear q230
   try clear q234
   obtain ⟨kq, x35_4, rfl, HA, HJ4, HO_5, HO_6, BK229, HB⟩ := hcut
   cases kq with
   | zero => exact absurd HA.out (by simp [cambistref12_guess.j0])
   | succ kj4 =>
    have H := HA.out
    clear HA
    simp only [cambistref12_guess.j0] at H
    by_cases c13 : x35_4 = true
    ·subst c13
     have H1 : (some (0, 0, (⟨#[]⟩ : ByteArray), ([] : List (S36)), 0, false)) = some (r1, r2, r3, r4, r5, r6) := by rw [if_pos rfl] at H; exact H
     clear H
     have H := H1
     clear H1
     simp only [Option.some.injEq, Prod.mk.injEq] at H
     obtain ⟨rfl, rfl, rfl, rfl, rfl, rfl⟩ := H
     have hcz14_0 : wc.cell? ⟨gb229, 0, none⟩ = some (.int .u64 0) := (blk_cell BK229.out 0).trans rfl
     have hcz14_1 : wc.cell? ⟨gb229, 1, none⟩ = some (.int .u64 0) := (blk_cell BK229.out 1).trans rfl
     have hcz14_2 : wc.cell? ⟨gb229, 2, none⟩ = some (.string (⟨#[]⟩ : ByteArray)) := (blk_cell BK229.out 2).trans rfl
     have hcz14_3 : wc.cell? ⟨gb229, 3, none⟩ = some (.slice none 0 0) := (blk_cell BK229.out 3).trans rfl
     have hfz14_0 := blk_frozen BK229.out 0
     have hfz14_1 := blk_frozen BK229.out 1
     have hfz14_2 := blk_frozen BK229.out 2
     have hfz14_3 := blk_frozen BK229.out 3
     go_wp2
     refine bodyPost_ret (results_ctt rfl _ _ gb229 39 #[.int .u64 0, .int .u64 0, .string (⟨#[]⟩ : ByteArray), .slice none 0 0] (0, 0) _ rfl (by (with_reducible repeat (first | refine kN_ ?_ _ | refine kD_ ?_ | refine kA_ ?_ _)); refine blk_put (cs := #[.int .u64 0, .int .u64 0, .string (⟨#[]⟩ : ByteArray), .slice none 0 0]) ?_ 3 _ rfl; (with_reducible repeat (first | refine kN_ ?_ _ | refine kD_ ?_ | refine kA_ ?_ _)); refine blk_put (cs := #[.int .u64 0, .int .u64 0, .string (⟨#[]⟩ : ByteArray), .slice none 0 0]) ?_ 2 _ rfl; (with_reducible repeat (first | refine kN_ ?_ _ | refine kD_ ?_ | refine kA_ ?_ _)); refine blk_put (cs := #[.int .u64 0, .int .u64 0, .string (⟨#[]⟩ : ByteArray), .slice none 0 0]) ?_ 1 _ rfl; (with_reducible repeat (first | refine kN_ ?_ _ | refine kD_ ?_ | refine kA_ ?_ _)); refine blk_put (cs := #[.int .u64 0, .int .u64 0, .string (⟨#[]⟩ : ByteArray), .slice none 0 0]) ?_ 0 _ rfl; (with_reducible repeat (first | refine kN_ ?_ _ | refine kD_ ?_ | refine kA_ ?_ _)); exact BK229.out) Tryz.underlying39 rfl z74_) rfl ?_
     exact ⟨_, z64_, z18_, z26_⟩
    ·replace c13 := Bool.eq_false_iff.mpr c13
     subst c13
     have H1 : (if 1 < (t231.length : Int) then ((cambistref02_Number.f kj4 (rdOf ByteArray.empty t231 1)).bind fun bt239 => (if 0 < (t235.length : Int) then ((cambistref02_Number.f kj4 (rdOf ByteArray.empty t235 0)).bind fun bt242 => (if 2 < (t235.length : Int) then ((cambistref01_Parse.f kj4 (rdOf ByteArray.empty t235 2)).bind fun bt245 => (if bt239.2 = 0 then (if bt242.2 = 0 then (if bt245.2 = 0 then (if bt245.1 < 0 then (cambistref12_guess.j1 kj4 l0 t235 bt239.1 bt242.1 bt245.1 true) else (cambistref12_guess.j1 kj4 l0 t235 bt239.1 bt242.1 bt245.1 (decide (bt245.1 > (wrap64 ((l0.length : Int) - 1)))))) else (cambistref12_guess.j1 kj4 l0 t235 bt239.1 bt242.1 bt245.1 true)) else (cambistref12_guess.j1 kj4 l0 t235 bt239.1 bt242.1 bt245.1 true)) else (cambistref12_guess.j1 kj4 l0 t235 bt239.1 bt242.1 bt245.1 true))) else (none))) else (none))) else (none)) = some (r1, r2, r3, r4, r5, r6) := by rw [if_neg (show ¬ (false = true) by decide)] at H; exact H
     clear H
     have H := H1
     clear H1
     by_cases c15 : 1 < (t231.length : Int)
     ·rw [if_pos c15] at H
      have c15b0 : decide (1 < (t231.length : Int)) = true := decide_eq_true c15
      have c15b1 : decide (1 < t231.length) = true := decide_eq_true (by omega)
      clear c15
      replace H := Option.bind_eq_some_iff.mp H
      obtain ⟨⟨t239, t240⟩, A160, H⟩ := H
      replace H : (if 0 < (t235.length : Int) then ((cambistref02_Number.f kj4 (rdOf ByteArray.empty t235 0)).bind fun bt242 => (if 2 < (t235.length : Int) then ((cambistref01_Parse.f kj4 (rdOf ByteArray.empty t235 2)).bind fun bt245 => (if t240 = 0 then (if bt242.2 = 0 then (if bt245.2 = 0 then (if bt245.1 < 0 then (cambistref12_guess.j1 kj4 l0 t235 t239 bt242.1 bt245.1 true) else (cambistref12_guess.j1 kj4 l0 t235 t239 bt242.1 bt245.1 (decide (bt245.1 > (wrap64 ((l0.length : Int) - 1)))))) else (cambistref12_guess.j1 kj4 l0 t235 t239 bt242.1 bt245.1 true)) else (cambistref12_guess.j1 kj4 l0 t235 t239 bt242.1 bt245.1 true)) else (cambistref12_guess.j1 kj4 l0 t235 t239 bt242.1 bt245.1 true))) else (none))) else (none)) = some (r1, r2, r3, r4, r5, r6) := H
      have A16 := a_ A160
      clear A160
      by_cases c17 : 0 < (t235.length : Int)
      ·rw [if_pos c17] at H
       have c17b0 : decide (0 < (t235.length : Int)) = true := decide_eq_true c17
       have c17b1 : decide (0 < t235.length) = true := decide_eq_true (by omega)
       clear c17
       replace H := Option.bind_eq_some_iff.mp H
       obtain ⟨⟨t242, t243⟩, A180, H⟩ := H
       replace H : (if 2 < (t235.length : Int) then ((cambistref01_Parse.f kj4 (rdOf ByteArray.empty t235 2)).bind fun bt245 => (if t240 = 0 then (if t243 = 0 then (if bt245.2 = 0 then (if bt245.1 < 0 then (cambistref12_guess.j1 kj4 l0 t235 t239 t242 bt245.1 true) else (cambistref12_guess.j1 kj4 l0 t235 t239 t242 bt245.1 (decide (bt245.1 > (wrap64 ((l0.length : Int) - 1)))))) else (cambistref12_guess.j1 kj4 l0 t235 t239 t242 bt245.1 true)) else (cambistref12_guess.j1 kj4 l0 t235 t239 t242 bt245.1 true)) else (cambistref12_guess.j1 kj4 l0 t235 t239 t242 bt245.1 true))) else (none)) = some (r1, r2, r3, r4, r5, r6) := H
       have A18 := a_ A180
       clear A180
       by_cases c19 : 2 < (t235.length : Int)
       ·rw [if_pos c19] at H
        have c19b0 : decide (2 < (t235.length : Int)) = true := decide_eq_true c19
        have c19b1 : decide (2 < t235.length) = true := decide_eq_true (by omega)
        clear c19
        replace H := Option.bind_eq_some_iff.mp H
        obtain ⟨⟨t245, t246⟩, A200, H⟩ := H
        replace H : (if t240 = 0 then (if t243 = 0 then (if t246 = 0 then (if t245 < 0 then (cambistref12_guess.j1 kj4 l0 t235 t239 t242 t245 true) else (cambistref12_guess.j1 kj4 l0 t235 t239 t242 t245 (decide (t245 > (wrap64 ((l0.length : Int) - 1)))))) else (cambistref12_guess.j1 kj4 l0 t235 t239 t242 t245 true)) else (cambistref12_guess.j1 kj4 l0 t235 t239 t242 t245 true)) else (cambistref12_guess.j1 kj4 l0 t235 t239 t242 t245 true)) = some (r1, r2, r3, r4, r5, r6) := H
        have A20 := a_ A200
        clear A200
        have HC21 := a_ H
        clear H
        obtain ⟨Ao22, co22, eo22⟩ := Kd.R_slice HO_5.out
        subst eo22
        have p238 : 0 ≤ (1 : Int) := (by omega)
        have q238 : 1 < (t231.length : Int) := of_decide_eq_true z70_
        obtain ⟨ad238, e238, hx238_0⟩ := Kd.at_string (Kd.R_reads' HO_5.out).2.2 1 p238 q238
        cases e238
        (try simp only [show (1 : Int).toNat = 1 from rfl, Nat.reduceMul, Nat.reduceEqDiff, Go.Addr.add, ↓reduceIte] at hx238_0)
        have qi238 : (1 < t231.length) = True := eq_true (by omega)
        (try rw [show ((1 : Int)).toNat = 1 from rfl] at hx238_0)
        replace p238 := eq_true p238
        replace q238 := eq_true q238
        go_upto_region 8 with (first | ((with_reducible refine gate_callee (f := 32) rfl ?_); refine goesL_ (some 41) rfl rfl Tryz.func32 z74_ rfl #[.string (rdOf ByteArray.empty t231 1)] rfl z19_ ?_; (with_reducible refine (cambistref02_Number.calls kj4 (rdOf ByteArray.empty t231 1) t239 t240 _ ?side1 A16.out).mono ?_); (case side1 => exact Glob.below HG.out z26_); rintro e w23 ⟨rfl, hb⟩; refine ⟨_, rfl, ?_⟩; have n0_ := a_ (Kd.R_below z45_ hb); have n1_ := a_ (Kd.R_below z46_ hb); have n2_ := a_ (blk_below (g := gb229) (o := .cells #[.int .u64 0, .int .u64 0, .string (⟨#[]⟩ : ByteArray), .slice none 0 0] 39 (0, 0)) z57_ hb); have n3_ := a_ (below_step z26_ hb); clear HO_5; clear HO_6; clear BK229; clear HB; have HO_5 := n0_; have HO_6 := n1_; have BK229 := n2_; have HB := n3_; clear n0_ n1_ n2_ n3_; (try clear hb); (try clear hb2); (try clear hk); (try clear hi); obtain ⟨Ao24, co24, eo24⟩ := Kd.R_slice HO_6.out; subst eo24; have p241 : 0 ≤ (0 : Int) := (by omega); have q241 : 0 < (t235.length : Int) := of_decide_eq_true z70_; obtain ⟨ad241, e241, hx241_0⟩ := Kd.at_string (Kd.R_reads' HO_6.out).2.2 0 p241 q241; cases e241; have qi241 : (0 < t235.length) = True := eq_true (by omega); (try rw [show ((0 : Int)).toNat = 0 from rfl] at hx241_0); (try rw [Addr.add_zero'] at hx241_0); replace p241 := eq_true p241; replace q241 := eq_true q241) | ((with_reducible refine gate_callee (f := 32) rfl ?_); refine goesL_ (some 48) rfl rfl Tryz.func32 z74_ rfl #[.string (rdOf ByteArray.empty t235 0)] rfl z19_ ?_; (with_reducible refine (cambistref02_Number.calls kj4 (rdOf ByteArray.empty t235 0) t242 t243 _ ?side1 A18.out).mono ?_); (case side1 => exact Glob.below HG.out z26_); rintro e w25 ⟨rfl, hb⟩; refine ⟨_, rfl, ?_⟩; have n0_ := a_ (Kd.R_below z45_ hb); have n1_ := a_ (Kd.R_below z46_ hb); have n2_ := a_ (blk_below (g := gb229) (o := .cells #[.int .u64 0, .int .u64 0, .string (⟨#[]⟩ : ByteArray), .slice none 0 0] 39 (0, 0)) z57_ hb); have n3_ := a_ (below_step z26_ hb); clear HO_5; clear HO_6; clear BK229; clear HB; have HO_5 := n0_; have HO_6 := n1_; have BK229 := n2_; have HB := n3_; clear n0_ n1_ n2_ n3_; (try clear hb); (try clear hb2); (try clear hk); (try clear hi); have p244 : 0 ≤ (2 : Int) := (by omega); have q244 : 2 < (t235.length : Int) := of_decide_eq_true z70_; obtain ⟨ad244, e244, hx244_0⟩ := Kd.at_string (Kd.R_reads' HO_6.out).2.2 2 p244 q244; obtain rfl : ad241 = ad244 := (by injection e244); (try simp only [show (2 : Int).toNat = 2 from rfl, Nat.reduceMul, Nat.reduceEqDiff, Go.Addr.add, ↓reduceIte] at hx244_0); have qi244 : (2 < t235.length) = True := eq_true (by omega); (try rw [show ((2 : Int)).toNat = 2 from rfl] at hx244_0); replace p244 := eq_true p244; replace q244 := eq_true q244) | ((with_reducible refine gate_callee (f := 33) rfl ?_); refine goesL_ (some 55) rfl rfl Tryz.func33 z74_ rfl #[.string (rdOf ByteArray.empty t235 2)] rfl z19_ ?_; (with_reducible refine (cambistref01_Parse.calls kj4 (rdOf ByteArray.empty t235 2) t245 t246 _ ?side1 A20.out).mono ?_); (case side1 => exact Glob.below HG.out z26_); rintro e w26 ⟨rfl, hb⟩; refine ⟨_, rfl, ?_⟩; have n0_ := a_ (Kd.R_below z45_ hb); have n1_ := a_ (Kd.R_below z46_ hb); have n2_ := a_ (blk_below (g := gb229) (o := .cells #[.int .u64 0, .int .u64 0, .string (⟨#[]⟩ : ByteArray), .slice none 0 0] 39 (0, 0)) z57_ hb); have n3_ := a_ (below_step z26_ hb); clear HO_5; clear HO_6; clear BK229; clear HB; have HO_5 := n0_; have HO_6 := n1_; have BK229 := n2_; have HB := n3_; clear n0_ n1_ n2_ n3_; (try clear hb); (try clear hb2); (try clear hk); (try clear hi)))
        (try simp only [Act.put, sT_, s0_, sS_])
        go_cut [78] (fun v78 wc => ∃ (kq : Nat) (x78_20 : Bool), v78 = .bool x78_20 ∧ Aside0 (cambistref12_guess.j1 kq l0 t235 t239 t242 t245 x78_20 = some (r1, r2, r3, r4, r5, r6)) ∧ Aside0 (kq ≤ kj4) ∧ Aside0 (Kd.R Kd.string 9 wc w.heap.size (fun _ => True) (.slice (some ad241) t235.length co24) t235) ∧ Aside0 (wc.heap[gb229]? = some (.cells #[.int .u64 0, .int .u64 0, .string (⟨#[]⟩ : ByteArray), (.slice none 0 0)] 39 (0, 0))) ∧ Aside0 (Below w.heap.size w wc))
        case first =>
         have H := HC21.out
         clear HC21
         by_cases c27 : t240 = 0
         ·rw [if_pos c27] at H
          have c27b0 : (t240 == 0) = true := beq_iff_eq.mpr c27
          have c27b1 : (t240 != 0) = false := bne_eq_false_iff_eq.mpr c27
          clear c27
          (first | rw [c27b0] | (simp only [i64_w, i32_w]; rw [c27b0]) | skip)
          by_cases c28 : t243 = 0
          ·rw [if_pos c28] at H
           have c28b0 : (t243 == 0) = true := beq_iff_eq.mpr c28
           have c28b1 : (t243 != 0) = false := bne_eq_false_iff_eq.mpr c28
           clear c28
           by_cases c29 : t246 = 0
           ·rw [if_pos c29] at H
            have c29b0 : (t246 == 0) = true := beq_iff_eq.mpr c29
            have c29b1 : (t246 != 0) = false := bne_eq_false_iff_eq.mpr c29
            clear c29
            by_cases c30 : t245 < 0
            ·rw [if_pos c30] at H
             have c30b0 : decide (t245 < 0) = true := decide_eq_true c30
             clear c30
             have H' := a_ H
             clear H
             go_wp2
             go_meet
             case rel => exact ⟨_, (true), z71_, H', ⟨z69_⟩, ⟨z21_⟩, ⟨z57_⟩, ⟨z26_⟩⟩
            ·rw [if_neg c30] at H
             have c30b0 : decide (t245 < 0) = false := decide_eq_false c30
             clear c30
             have H' := a_ H
             clear H
             go_wp2
             go_meet
             case rel => exact ⟨_, (decide (t245 > (wrap64 ((l0.length : Int) - 1)))), z71_, H', ⟨z69_⟩, ⟨z21_⟩, ⟨z57_⟩, ⟨z26_⟩⟩
           ·rw [if_neg c29] at H
            have c29b0 : (t246 == 0) = false := beq_eq_false_iff_ne.mpr c29
            have c29b1 : (t246 != 0) = true := bne_iff_ne.mpr c29
            have H' := a_ H
            clear H
            go_wp2
            go_meet
            case rel => exact ⟨_, (true), z71_, H', ⟨z69_⟩, ⟨z21_⟩, ⟨z57_⟩, ⟨z26_⟩⟩
          ·rw [if_neg c28] at H
           have c28b0 : (t243 == 0) = false := beq_eq_false_iff_ne.mpr c28
           have c28b1 : (t243 != 0) = true := bne_iff_ne.mpr c28
           have H' := a_ H
           clear H
           go_wp2
           go_meet
           case rel => exact ⟨_, (true), z71_, H', ⟨z69_⟩, ⟨z21_⟩, ⟨z57_⟩, ⟨z26_⟩⟩
         ·rw [if_neg c27] at H
          have c27b0 : (t240 == 0) = false := beq_eq_false_iff_ne.mpr c27
          have c27b1 : (t240 != 0) = true := bne_iff_ne.mpr c27
          (first | rw [c27b0] | (simp only [i64_w, i32_w]; rw [c27b0]) | skip)
          have H' := a_ H
          clear H
          go_wp2
          go_meet
          case rel => exact ⟨_, (true), z71_, H', ⟨z69_⟩, ⟨z21_⟩, ⟨z57_⟩, ⟨z26_⟩⟩
        case rest =>
         clear HC21
         try clear c1
         try clear c2
         try clear c2b0
         try clear c2b1
         try clear p2
         try clear q2
         try clear hx2
         try clear qi2
         try clear c3
         try clear p6
         try clear c9
         try clear c9b0
         try clear c9b1
         try clear c13
         try clear c14
         try clear c15
         try clear c15b0
         try clear c15b1
         try clear c17
         try clear c17b0
         try clear c17b1
         try clear c19
         try clear c19b0
         try clear c19b1
         try clear p23
         try clear q23
         try clear hx23
         try clear qi23
         try clear p24
         try clear q24
         try clear hx24
         try clear qi24
         try clear c27
         try clear c27b0
         try clear c27b1
         try clear c28
         try clear c28b0
         try clear c28b1
         try clear c29
         try clear c29b0
         try clear c29b1
         try clear c30
         try clear c30b0
         try clear hcz14_0
         try clear hcz14_1
         try clear hcz14_2
         try clear hcz14_3
         try clear hfz14_0
         try clear hfz14_1
         try clear hfz14_2
         try clear hfz14_3
         try clear hx230_0
         try clear hx230_1
         try clear hx234_0
         try clear hx234_1
         try clear hx238_0
         try clear hx241_0
         try clear hx244_0
         try clear p2
         try clear p230
         try clear p234
         try clear p238
         try clear p241
         try clear p244
         try clear q2
         try clear q230
         try clear q234
         try clear q238
         try clear q241
         try clear q244
         obtain ⟨kq, x78_20, rfl, HA, HJ20, HO_6, BK229, HB⟩ := hcut
         cases kq with
         | zero => exact absurd HA.out (by simp [cambistref12_guess.j1])
         | succ kj20 =>
          have H := HA.out
          clear HA
          simp only [cambistref12_guess.j1] at H
          by_cases c31 : x78_20 = true
          ·subst c31
           have H1 : (some (0, 0, (⟨#[]⟩ : ByteArray), ([] : List (S36)), 0, false)) = some (r1, r2, r3, r4, r5, r6) := by rw [if_pos rfl] at H; exact H
           clear H
           have H := H1
           clear H1
           simp only [Option.some.injEq, Prod.mk.injEq] at H
           obtain ⟨rfl, rfl, rfl, rfl, rfl, rfl⟩ := H
           have hcz32_0 : wc.cell? ⟨gb229, 0, none⟩ = some (.int .u64 0) := (blk_cell BK229.out 0).trans rfl
           have hcz32_1 : wc.cell? ⟨gb229, 1, none⟩ = some (.int .u64 0) := (blk_cell BK229.out 1).trans rfl
           have hcz32_2 : wc.cell? ⟨gb229, 2, none⟩ = some (.string (⟨#[]⟩ : ByteArray)) := (blk_cell BK229.out 2).trans rfl
           have hcz32_3 : wc.cell? ⟨gb229, 3, none⟩ = some (.slice none 0 0) := (blk_cell BK229.out 3).trans rfl
           have hfz32_0 := blk_frozen BK229.out 0
           have hfz32_1 := blk_frozen BK229.out 1
           have hfz32_2 := blk_frozen BK229.out 2
           have hfz32_3 := blk_frozen BK229.out 3
           go_wp2
           refine bodyPost_ret (results_ctt rfl _ _ gb229 39 #[.int .u64 0, .int .u64 0, .string (⟨#[]⟩ : ByteArray), .slice none 0 0] (0, 0) _ rfl (by (with_reducible repeat (first | refine kN_ ?_ _ | refine kD_ ?_ | refine kA_ ?_ _)); refine blk_put (cs := #[.int .u64 0, .int .u64 0, .string (⟨#[]⟩ : ByteArray), .slice none 0 0]) ?_ 3 _ rfl; (with_reducible repeat (first | refine kN_ ?_ _ | refine kD_ ?_ | refine kA_ ?_ _)); refine blk_put (cs := #[.int .u64 0, .int .u64 0, .string (⟨#[]⟩ : ByteArray), .slice none 0 0]) ?_ 2 _ rfl; (with_reducible repeat (first | refine kN_ ?_ _ | refine kD_ ?_ | refine kA_ ?_ _)); refine blk_put (cs := #[.int .u64 0, .int .u64 0, .string (⟨#[]⟩ : ByteArray), .slice none 0 0]) ?_ 1 _ rfl; (with_reducible repeat (first | refine kN_ ?_ _ | refine kD_ ?_ | refine kA_ ?_ _)); refine blk_put (cs := #[.int .u64 0, .int .u64 0, .string (⟨#[]⟩ : ByteArray), .slice none 0 0]) ?_ 0 _ rfl; (with_reducible repeat (first | refine kN_ ?_ _ | refine kD_ ?_ | refine kA_ ?_ _)); exact BK229.out) Tryz.underlying39 rfl z74_) rfl ?_
           exact ⟨_, z64_, z18_, z26_⟩
          ·replace c31 := Bool.eq_false_iff.mpr c31
           subst c31
           have H1 : (if 1 < (t235.length : Int) then (cambistref12_guess.l0 kj20 l0 t245 1 t239 t242 (rdOf ByteArray.empty t235 1) ([] : List (S36))) else (none)) = some (r1, r2, r3, r4, r5, r6) := by rw [if_neg (show ¬ (false = true) by decide)] at H; exact H
           clear H
           have H := H1
           clear H1
           by_cases c33 : 1 < (t235.length : Int)
           ·rw [if_pos c33] at H
            have c33b0 : decide (1 < (t235.length : Int)) = true := decide_eq_true c33
            have c33b1 : decide (1 < t235.length) = true := decide_eq_true (by omega)
            clear c33
            have H' := a_ H
            clear H
            have p247 : 0 ≤ (1 : Int) := (by omega)
            have q247 : 1 < (t235.length : Int) := of_decide_eq_true z70_
            obtain ⟨ad247, e247, hx247_0⟩ := Kd.at_string (Kd.R_reads' HO_6.out).2.2 1 p247 q247
            obtain rfl : ad241 = ad247 := (by injection e247)
            (try simp only [show (1 : Int).toNat = 1 from rfl, Nat.reduceMul, Nat.reduceEqDiff, Go.Addr.add, ↓reduceIte] at hx247_0)
            have qi247 : (1 < t235.length) = True := eq_true (by omega)
            (try rw [show ((1 : Int)).toNat = 1 from rfl] at hx247_0)
            replace p247 := eq_true p247
            replace q247 := eq_true q247
            go_wp2_with (first | ((with_reducible refine gate_dst (N := 13) rfl ?_); (try (refine gate_guard (by rfl) ?_; dsimp only)); refine box_event ?hg (N := 13) ?hd (cs := #[.int .u64 0, .int .u64 0, .string (⟨#[]⟩ : ByteArray), .slice none 0 0]) (t := 39) ?hr ?_; (case hd => rfl); (case hg => rfl); (case hr => first | (go_simp; done) | (go_simp; rfl)); intro gb248 hg w34 hbox hb; have n0_ := a_ (Kd.R_below z46_ hb); have n1_ := a_ (blk_below (g := gb229) (o := .cells #[.int .u64 0, .int .u64 0, .string (⟨#[]⟩ : ByteArray), .slice none 0 0] 39 (0, 0)) z57_ hb); have n2_ := a_ (below_step z26_ hb); have n3_ := a_ (hbox); have n4_ := a_ ((by rw [hg]; exact (below_size z26_) : w.heap.size ≤ gb248)); have n5_ := a_ ((by rw [hg]; exact (below_size z26_) : w.heap.size ≤ gb248)); have n6_ := a_ ((by rw [hg]; exact Nat.ne_of_lt (blk_lt (g := gb229) (o := .cells #[.int .u64 0, .int .u64 0, .string (⟨#[]⟩ : ByteArray), .slice none 0 0] 39 (0, 0)) z57_) : gb229 ≠ gb248)); have n7_ := a_ ((by rw [hg]; exact Nat.ne_of_gt (blk_lt (g := gb229) (o := .cells #[.int .u64 0, .int .u64 0, .string (⟨#[]⟩ : ByteArray), .slice none 0 0] 39 (0, 0)) z57_) : gb248 ≠ gb229)); clear HO_6; clear BK229; clear HB; have HO_6 := n0_; have BK229 := n1_; have HB := n2_; have BK248 := n3_; have GW248 := n4_; have GE248 := n5_; have NB229_248 := n6_; have NB248_229 := n7_; clear n0_ n1_ n2_ n3_ n4_ n5_ n6_ n7_; clear hb hbox hg; have hnb35 := NB248_229.out; have hnc35 := NB229_248.out; have hcz36_0 : w34.cell? ⟨gb248, 0, none⟩ = some (.int .u64 0) := (blk_cell BK248.out 0).trans rfl; have hcz36_1 : w34.cell? ⟨gb248, 1, none⟩ = some (.int .u64 0) := (blk_cell BK248.out 1).trans rfl; have hcz36_2 : w34.cell? ⟨gb248, 2, none⟩ = some (.string (⟨#[]⟩ : ByteArray)) := (blk_cell BK248.out 2).trans rfl; have hcz36_3 : w34.cell? ⟨gb248, 3, none⟩ = some (.slice none 0 0) := (blk_cell BK248.out 3).trans rfl; have hfz36_0 := blk_frozen BK248.out 0; have hfz36_1 := blk_frozen BK248.out 1; have hfz36_2 := blk_frozen BK248.out 2; have hfz36_3 := blk_frozen BK248.out 3))
            go_loopg [14] kj20 (fun kq v14 w' => ∃ (x14_3 : Int) (x230000_3 : Int) (x230001_3 : Int) (x230002_3 : ByteArray) (x249003_3 : List (S36)) (u249003 : Value), v14 = .int .i64 x14_3 ∧ Aside0 (cambistref12_guess.l0 kq l0 t245 x14_3 t239 t242 (rdOf ByteArray.empty t235 1) x249003_3 = some (r1, r2, r3, r4, r5, r6)) ∧ Aside0 (kq ≤ kj20) ∧ Aside0 (Kd.R k36 36 w' w.heap.size (fun _ => True) u249003 x249003_3) ∧ Aside0 (w'.heap[gb229]? = some (.cells #[.int .u64 x230000_3, .int .u64 x230001_3, .string x230002_3, (.slice none 0 0)] 39 (0, 0))) ∧ Aside0 (w'.heap[gb248]? = some (.cells #[.int .u64 t239, .int .u64 t242, .string (rdOf ByteArray.empty t235 1), u249003] 39 (0, 0))) ∧ Aside0 (Below w.heap.size w w'))
            case atStart => exact ⟨(1), (0), (0), ((⟨#[]⟩ : ByteArray)), (([] : List (S36))), (.slice none 0 0), z71_, H', ⟨Nat.le_refl _⟩, ⟨z18_⟩, ⟨by (with_reducible repeat (first | refine kN_ ?_ _ | refine kD_ ?_ | refine kA_ ?_ _)); refine blk_far ?_ NB229_248.out _; (with_reducible repeat (first | refine kN_ ?_ _ | refine kD_ ?_ | refine kA_ ?_ _)); refine blk_far ?_ NB229_248.out _; (with_reducible repeat (first | refine kN_ ?_ _ | refine kD_ ?_ | refine kA_ ?_ _)); refine blk_far ?_ NB229_248.out _; (with_reducible repeat (first | refine kN_ ?_ _ | refine kD_ ?_ | refine kA_ ?_ _)); refine blk_far ?_ NB229_248.out _; (with_reducible repeat (first | refine kN_ ?_ _ | refine kD_ ?_ | refine kA_ ?_ _)); exact BK229.out⟩, ⟨by (with_reducible repeat (first | refine kN_ ?_ _ | refine kD_ ?_ | refine kA_ ?_ _)); refine blk_put (cs := #[.int .u64 t239, .int .u64 t242, .string (rdOf ByteArray.empty t235 1), .slice none 0 0]) ?_ 3 _ rfl; (with_reducible repeat (first | refine kN_ ?_ _ | refine kD_ ?_ | refine kA_ ?_ _)); refine blk_put (cs := #[.int .u64 t239, .int .u64 t242, .string (⟨#[]⟩ : ByteArray), .slice none 0 0]) ?_ 2 _ rfl; (with_reducible repeat (first | refine kN_ ?_ _ | refine kD_ ?_ | refine kA_ ?_ _)); refine blk_put (cs := #[.int .u64 t239, .int .u64 0, .string (⟨#[]⟩ : ByteArray), .slice none 0 0]) ?_ 1 _ rfl; (with_reducible repeat (first | refine kN_ ?_ _ | refine kD_ ?_ | refine kA_ ?_ _)); refine blk_put (cs := #[.int .u64 0, .int .u64 0, .string (⟨#[]⟩ : ByteArray), .slice none 0 0]) ?_ 0 _ rfl; (with_reducible repeat (first | refine kN_ ?_ _ | refine kD_ ?_ | refine kA_ ?_ _)); exact BK248.out⟩, ⟨z14_⟩⟩
            case round =>
             clear H'
             try clear c1
             try clear c2
             try clear c2b0
             try clear c2b1
             try clear p2
             try clear q2
             try clear hx2
             try clear qi2
             try clear c3
             try clear p6
             try clear c9
             try clear c9b0
             try clear c9b1
             try clear c13
             try clear c14
             try clear c15
             try clear c15b0
             try clear c15b1
             try clear c17
             try clear c17b0
             try clear c17b1
             try clear c19
             try clear c19b0
             try clear c19b1
             try clear p23
             try clear q23
             try clear hx23
             try clear qi23
             try clear p24
             try clear q24
             try clear hx24
             try clear qi24
             try clear c27
             try clear c27b0
             try clear c27b1
             try clear c28
             try clear c28b0
             try clear c28b1
             try clear c29
             try clear c29b0
             try clear c29b1
             try clear c30
             try clear c30b0
             try clear c31
             try clear c32
             try clear c33
             try clear c33b0
             try clear c33b1
             try clear c35
             try clear hcz14_0
             try clear hcz14_1
             try clear hcz14_2
             try clear hcz14_3
             try clear hcz32_0
             try clear hcz32_1
             try clear hcz32_2
             try clear hcz32_3
             try clear hcz36_0
             try clear hcz36_1
             try clear hcz36_2
             try clear hcz36_3
             try clear hfz14_0
             try clear hfz14_1
             try clear hfz14_2
             try clear hfz14_3
             try clear hfz32_0
             try clear hfz32_1
             try clear hfz32_2
             try clear hfz32_3
             try clear hfz36_0
             try clear hfz36_1
             try clear hfz36_2
             try clear hfz36_3
             try clear hx230_0
             try clear hx230_1
             try clear hx234_0
             try clear hx234_1
             try clear hx238_0
             try clear hx241_0
             try clear hx244_0
             try clear hx247_0
             try clear p2
             try clear p23
             try clear p230
             try clear p234
             try clear p238
             try clear p24
             try clear p241
             try clear p244
             try clear p247
             try clear p6
             try clear q2
             try clear q23
             try clear q230
             try clear q234
             try clear q238
             try clear q24
             try clear q241
             try clear q244
             try clear q247
             obtain ⟨x14_3, x230000_3, x230001_3, x230002_3, x249003_3, u249003, rfl, HA, HK3, HO_249003, BK229, BK248, HB⟩ := hrel
             cases gk with
             | zero => exact absurd HA.out (by simp [cambistref12_guess.l0])
             | succ k3 =>
              have H := HA.out
              clear HA
              simp only [cambistref12_guess.l0] at H
              by_cases c37 : x14_3 ≤ t245
              ·rw [if_pos c37] at H
               have c37b0 : decide (x14_3 ≤ t245) = true := decide_eq_true c37
               clear c37
               by_cases c38 : 0 ≤ x14_3
               ·rw [if_pos c38] at H
                have c38b0 : decide (0 ≤ x14_3) = true := decide_eq_true c38
                clear c38
                by_cases c39 : x14_3 < (l0.length : Int)
                ·rw [if_pos c39] at H
                 have c39b0 : decide (x14_3 < (l0.length : Int)) = true := decide_eq_true c39
                 clear c39
                 replace H := Option.bind_eq_some_iff.mp H
                 obtain ⟨t250, A400, H⟩ := H
                 replace H : (if (t250.length : Int) = 3 then (if 2 < (t250.length : Int) then ((cambistref01_Parse.f k3 (rdOf ByteArray.empty t250 2)).bind fun bt254 => (if bt254.2 = 0 then (if 0 < (t250.length : Int) then (if 1 < (t250.length : Int) then (if x249003_3.length < 3518437208883 then (cambistref12_guess.l0 k3 l0 t245 (wrap64 (x14_3 + 1)) t239 t242 (rdOf ByteArray.empty t235 1) (x249003_3 ++ [(⟨rdOf ByteArray.empty t250 0, rdOf ByteArray.empty t250 1, bt254.1⟩ : S36)])) else (none)) else (none)) else (none)) else (some (0, 0, (⟨#[]⟩ : ByteArray), ([] : List (S36)), 0, false)))) else (none)) else (some (0, 0, (⟨#[]⟩ : ByteArray), ([] : List (S36)), 0, false))) = some (r1, r2, r3, r4, r5, r6) := H
                 have A40 := a_ A400
                 clear A400
                 by_cases c41 : (t250.length : Int) = 3
                 ·rw [if_pos c41] at H
                  have c41b0 : ((t250.length : Int) == 3) = true := beq_iff_eq.mpr c41
                  have c41b1 : ((t250.length : Int) != 3) = false := bne_eq_false_iff_eq.mpr c41
                  clear c41
                  by_cases c42 : 2 < (t250.length : Int)
                  ·rw [if_pos c42] at H
                   have c42b0 : decide (2 < (t250.length : Int)) = true := decide_eq_true c42
                   have c42b1 : decide (2 < t250.length) = true := decide_eq_true (by omega)
                   clear c42
                   replace H := Option.bind_eq_some_iff.mp H
                   obtain ⟨⟨t254, t255⟩, A430, H⟩ := H
                   replace H : (if t255 = 0 then (if 0 < (t250.length : Int) then (if 1 < (t250.length : Int) then (if x249003_3.length < 3518437208883 then (cambistref12_guess.l0 k3 l0 t245 (wrap64 (x14_3 + 1)) t239 t242 (rdOf ByteArray.empty t235 1) (x249003_3 ++ [(⟨rdOf ByteArray.empty t250 0, rdOf ByteArray.empty t250 1, t254⟩ : S36)])) else (none)) else (none)) else (none)) else (some (0, 0, (⟨#[]⟩ : ByteArray), ([] : List (S36)), 0, false))) = some (r1, r2, r3, r4, r5, r6) := H
                   have A43 := a_ A430
                   clear A430
                   by_cases c44 : t255 = 0
                   ·rw [if_pos c44] at H
                    have c44b0 : (t255 == 0) = true := beq_iff_eq.mpr c44
                    have c44b1 : (t255 != 0) = false := bne_eq_false_iff_eq.mpr c44
                    clear c44
                    by_cases c45 : 0 < (t250.length : Int)
                    ·rw [if_pos c45] at H
                     have c45b0 : decide (0 < (t250.length : Int)) = true := decide_eq_true c45
                     have c45b1 : decide (0 < t250.length) = true := decide_eq_true (by omega)
                     clear c45
                     by_cases c46 : 1 < (t250.length : Int)
                     ·rw [if_pos c46] at H
                      have c46b0 : decide (1 < (t250.length : Int)) = true := decide_eq_true c46
                      have c46b1 : decide (1 < t250.length) = true := decide_eq_true (by omega)
                      clear c46
                      by_cases c47 : x249003_3.length < 3518437208883
                      ·rw [if_pos c47] at H
                       have LMc47 := a_ c47
                       clear c47
                       obtain ⟨y258, hy258⟩ : ∃ y_ : List (S36), y_ = (x249003_3 ++ [(⟨rdOf ByteArray.empty t250 0, rdOf ByteArray.empty t250 1, t254⟩ : S36)]) := ⟨_, rfl⟩
                       replace H : (cambistref12_guess.l0 k3 l0 t245 (wrap64 (x14_3 + 1)) t239 t242 (rdOf ByteArray.empty t235 1) y258) = some (r1, r2, r3, r4, r5, r6) := by first | (rw [hy258]; with_reducible exact H) | (have H2_ := (Option.bind_some _ _).symm.trans H; rw [hy258]; with_reducible exact H2_) | (have H2_ := (Option.bind_some _ _).symm.trans H; with_reducible exact H2_) | with_reducible exact H | (rw [hy258]; exact H) | exact H
                       have Ny258 := a_ hy258
                       clear hy258
                       have H' := a_ H
                       clear H
                       have p249 : 0 ≤ (x14_3 : Int) := of_decide_eq_true z70_
                       have q249 : x14_3 < (l0.length : Int) := of_decide_eq_true z70_
                       obtain ⟨ad249, e249, hx249_0, hx249_1⟩ := at_T26 HR0.out x14_3 p249 q249
                       obtain rfl : ad230 = ad249 := (by injection e249)
                       replace hx249_0 := (HB.out.cell (World.block_lt_of_cell? w _ hx249_0)).trans hx249_0
                       replace hx249_1 := (HB.out.cell (World.block_lt_of_cell? w _ hx249_1)).trans hx249_1
                       replace p249 := eq_true p249
                       replace q249 := eq_true q249
                       try go_wp2_with (first | ((with_reducible refine gate_callee (f := 31) rfl ?_); refine goesL_ (some 96) rfl rfl Tryz.func31 z74_ rfl #[.string ((rd_T26 l0 x14_3).f1)] rfl z19_ ?_; (with_reducible refine (cambistref12_Parts.calls k3 ((rd_T26 l0 x14_3).f1) t250 _ ?side1 A40.out).mono ?_); (case side1 => exact Glob.below HG.out z14_); rintro e w48 ⟨v251, rfl, ho0, hb⟩; refine ⟨_, rfl, ?_⟩; have n0_ := a_ (Kd.R_below z32_ hb); have n1_ := a_ (Kd.R_lower ho0 (below_size z14_)); have n2_ := a_ (blk_below (g := gb229) (o := .cells #[.int .u64 x230000_3, .int .u64 x230001_3, .string x230002_3, .slice none 0 0] 39 (0, 0)) z57_ hb); have n3_ := a_ (blk_below (g := gb248) (o := .cells #[.int .u64 t239, .int .u64 t242, .string (rdOf ByteArray.empty t235 1), u249003] 39 (0, 0)) z58_ hb); have n4_ := a_ (below_step z14_ hb); clear HO_249003; clear BK229; clear BK248; clear HB; have HO_249003 := n0_; have HO252 := n1_; have BK229 := n2_; have BK248 := n3_; have HB := n4_; clear n0_ n1_ n2_ n3_ n4_; (try clear hb); (try clear hb2); (try clear hk); (try clear hi); (try clear ho0); obtain ⟨Ao49, co49, eo49⟩ := Kd.R_slice HO252.out; subst eo49; have p253 : 0 ≤ (2 : Int) := (by omega); have q253 : 2 < (t250.length : Int) := of_decide_eq_true z70_; obtain ⟨ad253, e253, hx253_0⟩ := Kd.at_string (Kd.R_reads' HO252.out).2.2 2 p253 q253; cases e253; (try simp only [show (2 : Int).toNat = 2 from rfl, Nat.reduceMul, Nat.reduceEqDiff, Go.Addr.add, ↓reduceIte] at hx253_0); have qi253 : (2 < t250.length) = True := eq_true (by omega); (try rw [show ((2 : Int)).toNat = 2 from rfl] at hx253_0); replace p253 := eq_true p253; replace q253 := eq_true q253) | ((with_reducible refine gate_callee (f := 33) rfl ?_); refine goesL_ (some 105) rfl rfl Tryz.func33 z74_ rfl #[.string (rdOf ByteArray.empty t250 2)] rfl z19_ ?_; (with_reducible refine (cambistref01_Parse.calls k3 (rdOf ByteArray.empty t250 2) t254 t255 _ ?side1 A43.out).mono ?_); (case side1 => exact Glob.below HG.out z14_); rintro e w50 ⟨rfl, hb⟩; refine ⟨_, rfl, ?_⟩; have n0_ := a_ (Kd.R_below z32_ hb); have n1_ := a_ (Kd.R_below z36_ hb); have n2_ := a_ (blk_below (g := gb229) (o := .cells #[.int .u64 x230000_3, .int .u64 x230001_3, .string x230002_3, .slice none 0 0] 39 (0, 0)) z57_ hb); have n3_ := a_ (blk_below (g := gb248) (o := .cells #[.int .u64 t239, .int .u64 t242, .string (rdOf ByteArray.empty t235 1), u249003] 39 (0, 0)) z58_ hb); have n4_ := a_ (below_step z14_ hb); clear HO_249003; clear HO252; clear BK229; clear BK248; clear HB; have HO_249003 := n0_; have HO252 := n1_; have BK229 := n2_; have BK248 := n3_; have HB := n4_; clear n0_ n1_ n2_ n3_ n4_; (try clear hb); (try clear hb2); (try clear hk); (try clear hi)))
                       have n0_ := a_ (Kd.R_drew HO_249003.out)
                       have n1_ := a_ (Kd.R_drew HO252.out)
                       have n2_ := a_ (blk_drew BK229.out)
                       have n3_ := a_ (blk_drew BK248.out)
                       have n4_ := a_ (below_drew1 HB.out)
                       clear HO_249003
                       clear HO252
                       clear BK229
                       clear BK248
                       clear HB
                       have HO_249003 := n0_
                       have HO252 := n1_
                       have BK229 := n2_
                       have BK248 := n3_
                       have HB := n4_
                       clear n0_ n1_ n2_ n3_ n4_
                       have p256 : 0 ≤ (0 : Int) := (by omega)
                       have q256 : 0 < (t250.length : Int) := of_decide_eq_true z70_
                       obtain ⟨ad256, e256, hx256_0⟩ := Kd.at_string (Kd.R_reads' HO252.out).2.2 0 p256 q256
                       obtain rfl : ad253 = ad256 := (by injection e256)
                       have qi256 : (0 < t250.length) = True := eq_true (by omega)
                       (try rw [show ((0 : Int)).toNat = 0 from rfl] at hx256_0)
                       (try rw [Addr.add_zero'] at hx256_0)
                       replace p256 := eq_true p256
                       replace q256 := eq_true q256
                       have p257 : 0 ≤ (1 : Int) := (by omega)
                       have q257 : 1 < (t250.length : Int) := of_decide_eq_true z70_
                       obtain ⟨ad257, e257, hx257_0⟩ := Kd.at_string (Kd.R_reads' HO252.out).2.2 1 p257 q257
                       obtain rfl : ad253 = ad257 := (by injection e257)
                       (try simp only [show (1 : Int).toNat = 1 from rfl, Nat.reduceMul, Nat.reduceEqDiff, Go.Addr.add, ↓reduceIte] at hx257_0)
                       have qi257 : (1 < t250.length) = True := eq_true (by omega)
                       (try rw [show ((1 : Int)).toNat = 1 from rfl] at hx257_0)
                       replace p257 := eq_true p257
                       replace q257 := eq_true q257
                       refine start_ (n := 14) (S := fun w' => w'.cell? ⟨gb248, 0, none⟩ = some (.int .u64 t239) ∧ w'.cell? ⟨gb248, 1, none⟩ = some (.int .u64 t242) ∧ w'.cell? ⟨gb248, 2, none⟩ = some (.string (rdOf ByteArray.empty t235 1)) ∧ w'.cell? ⟨gb248, 3, none⟩ = some (u249003) ∧ w'.cell? ad253 = some (.string (rdOf ByteArray.empty t250 0)) ∧ w'.cell? ⟨ad253.block, ad253.off + 1, none⟩ = some (.string (rdOf ByteArray.empty t250 1))) (ds := [11, 13]) #[false, false, false, false, false, false, false, false, false, false, false, false, false, false] z74_ rfl rfl ⟨(blk_cell BK248.out 0).trans rfl, (blk_cell BK248.out 1).trans rfl, (blk_cell BK248.out 2).trans rfl, (blk_cell BK248.out 3).trans rfl, hx256_0, hx257_0⟩ (fun hHeld => ?_); refine with_tabW cambistref12_guess.tab20 cambistref12_guess.bits20 (fun HT_ HW_ => ?_)
                       generalize w50.drew = w51 at HO_249003 HO252 BK229 BK248 HB hx256_0 hx257_0 hHeld ⊢
                       refine pure_ (i := 0) (N := some 111) (v := ?_) (a' := ?_) (fl_ 14 1) rfl rfl (any_of HT_.out z74_) (fun _ _ _ h => h) (Or.inl ⟨by rfl, ?_⟩) ?_ ?_
                       rotate_left
                       ·intro w'
                        go_simp
                        with_reducible rfl
                       rotate_left
                       ·simp only [Act.put, sT_, s0_, sS_, i64_w, i32_w]
                        rfl
                       refine pure_ (i := 2) (N := some 113) (v := ?_) (a' := ?_) (fl_ 14 5) rfl rfl (any_of HT_.out z74_) (fun _ _ _ h => h) (Or.inl ⟨by rfl, ?_⟩) ?_ ?_
                       rotate_left
                       ·intro w'
                        go_simp
                        with_reducible rfl
                       rotate_left
                       ·simp only [Act.put, sT_, s0_, sS_, i64_w, i32_w]
                        rfl
                       refine pure_ (i := 3) (N := some 114) (v := ?_) (a' := ?_) (fl_ 14 13) rfl rfl (any_of HT_.out z74_) (fun _ _ _ h => h) (Or.inl ⟨by rfl, ?_⟩) ?_ ?_
                       rotate_left
                       ·intro w'
                        go_simp
                        with_reducible rfl
                       rotate_left
                       ·simp only [Act.put, sT_, s0_, sS_, i64_w, i32_w]
                        rfl
                       refine pure_ (i := 5) (N := some 116) (v := ?_) (a' := ?_) (fl_ 14 45) rfl rfl (any_of HT_.out z74_) (fun _ _ _ h => h) (Or.inl ⟨by rfl, ?_⟩) ?_ ?_
                       rotate_left
                       ·intro w'
                        go_simp
                        with_reducible rfl
                       rotate_left
                       ·simp only [Act.put, sT_, s0_, sS_, i64_w, i32_w]
                        rfl
                       refine pure_ (i := 6) (N := some 117) (v := ?_) (a' := ?_) (fl_ 14 109) rfl rfl (any_of HT_.out z74_) (fun _ _ _ h => h) (Or.inl ⟨by rfl, ?_⟩) ?_ ?_
                       rotate_left
                       ·intro w'
                        go_simp
                        with_reducible rfl
                       rotate_left
                       ·simp only [Act.put, sT_, s0_, sS_, i64_w, i32_w]
                        rfl
                       refine pure_ (i := 8) (N := some 119) (v := ?_) (a' := ?_) (fl_ 14 365) rfl rfl (any_of HT_.out z74_) (fun _ _ _ h => h) (Or.inl ⟨by rfl, ?_⟩) ?_ ?_
                       rotate_left
                       ·intro w'
                        go_simp
                        with_reducible rfl
                       rotate_left
                       ·simp only [Act.put, sT_, s0_, sS_, i64_w, i32_w]
                        rfl
                       refine take_ (i := 1) (N := some 112) (v := ?_) (a' := ?_) (fl_ 14 367) rfl rfl (take_ofW HT_.out HW_.out z74_) (fun _ _ _ h => h) (Or.inl ⟨by rfl, ?_⟩) hHeld ?_ ?_
                       rotate_left
                       ·rintro w' ⟨s0, s1, s2, s3, s4, s5⟩
                        go_simp
                        with_reducible rfl
                       rotate_left
                       ·simp only [Act.put, sT_, s0_, sS_, i64_w, i32_w]
                        rfl
                       refine take_ (i := 4) (N := some 115) (v := ?_) (a' := ?_) (fl_ 14 383) rfl rfl (take_ofW HT_.out HW_.out z74_) (fun _ _ _ h => h) (Or.inl ⟨by rfl, ?_⟩) hHeld ?_ ?_
                       rotate_left
                       ·rintro w' ⟨s0, s1, s2, s3, s4, s5⟩
                        go_simp
                        with_reducible rfl
                       rotate_left
                       ·simp only [Act.put, sT_, s0_, sS_, i64_w, i32_w]
                        rfl
                       refine take_ (i := 7) (N := some 118) (v := ?_) (a' := ?_) (fl_ 14 511) rfl rfl (take_ofW HT_.out HW_.out z74_) (fun _ _ _ h => h) (Or.inl ⟨by rfl, ?_⟩) hHeld ?_ ?_
                       rotate_left
                       ·rintro w' ⟨s0, s1, s2, s3, s4, s5⟩
                        go_simp
                        with_reducible rfl
                       rotate_left
                       ·simp only [Act.put, sT_, s0_, sS_, i64_w, i32_w]
                        rfl
                       refine pure_ (i := 9) (N := some 120) (v := ?_) (a' := ?_) (fl_ 14 1023) rfl rfl (any_of HT_.out z74_) (fun _ _ _ h => h) (Or.inl ⟨by rfl, ?_⟩) ?_ ?_
                       rotate_left
                       ·intro w'
                        go_simp
                        with_reducible rfl
                       rotate_left
                       ·simp only [Act.put, sT_, s0_, sS_, i64_w, i32_w]
                        rfl
                       refine one_ (i := 10) (N := some 121) (fl_ 14 2047) rfl rfl (one_of HT_.out z74_) (by decide) (fun K hK => ?_)
                       refine value_ (w1 := ?_) (v := ?_) (by rfl) rfl ?_ ?_
                       rotate_left 2
                       ·go_simp
                        constructor
                        ·rfl
                        ·rfl
                       refine hK.out _ _ ⟨(blk_cell (blk_alloc BK248.out _) 0).trans rfl, (blk_cell (blk_alloc BK248.out _) 1).trans rfl, (blk_cell (blk_alloc BK248.out _) 2).trans rfl, (blk_cell (blk_alloc BK248.out _) 3).trans rfl, (World.cell?_alloc_lt _ _ _ (World.block_lt_of_cell? _ _ (hHeld.2.2.2.2.1))).trans (hHeld.2.2.2.2.1), (World.cell?_alloc_lt _ _ _ (World.block_lt_of_cell? _ _ (hHeld.2.2.2.2.2))).trans (hHeld.2.2.2.2.2)⟩ (fun hHeld => ?_)
                       clear hK K
                       refine norm_ (a' := ?_) ?_ ?_
                       rotate_left
                       ·show Act.put _ (some 121) _ = _
                        simp only [Act.put, sT_, s0_, sS_, i64_w, i32_w]
                        rfl
                       refine last_ (i := 11) (N := some 122) #[true, true, true, true, true, true, true, true, true, true, true, true, false, false] rfl rfl (one_of HT_.out z74_) (by decide) (fun K hK => ?_)
                       refine Kd.R_append_step k36 (w0 := w) w.heap.size (by rfl) (.tmp 112) (.tmp 121) 37 36 (.agg #[(.string ⟨#[]⟩), (.string ⟨#[]⟩), (.int .i64 0)]) 40 rfl Tryz.underlying37 info36 rfl (by decide) (by omega) u249003 x249003_3 (⟨rdOf ByteArray.empty t250 0, rdOf ByteArray.empty t250 1, t254⟩ : S36) [.string (rdOf ByteArray.empty t250 0), .string (rdOf ByteArray.empty t250 1), .int .i64 t254] (fun _ => True) (fun _ => False) rfl rfl ?aP (fun _ hk => hk.elim) ?aF ?aO ?aB ?aS ?aL ?_
                       (case aP => exact k36_mkM _ _ _ (⟨rdOf ByteArray.empty t250 0, rdOf ByteArray.empty t250 1, t254⟩ : S36))
                       (case aB => exact z14_)
                       (case aF => exact (fun _ _ => trivial))
                       (case aO => exact z32_)
                       (case aS => exact (below_size z14_))
                       (case aL => have := LMc47.out; omega)
                       intro v259 w52 ho hb hg hat
                       rw [← Ny258.out] at ho
                       have n0_ := a_ (blk_grown (g := gb229) (o := .cells #[.int .u64 x230000_3, .int .u64 x230001_3, .string x230002_3, .slice none 0 0] 39 (0, 0)) z57_ hg (Kd.R_ne HO_249003.out BK229.out (by decide)))
                       have n1_ := a_ (blk_grown (g := gb248) (o := .cells #[.int .u64 t239, .int .u64 t242, .string (rdOf ByteArray.empty t235 1), u249003] 39 (0, 0)) z58_ hg (Kd.R_ne HO_249003.out BK248.out (by decide)))
                       have n2_ := a_ (Kd.R_over' z36_ (Kd.R_typed z32_) (by decide) hg)
                       have n3_ := a_ (hb)
                       have n4_ := a_ (ho)
                       clear BK229
                       clear BK248
                       clear HO252
                       clear HB
                       clear HO_249003
                       have BK229 := n0_
                       have BK248 := n1_
                       have HO252 := n2_
                       have HB := n3_
                       have HO260 := n4_
                       clear n0_ n1_ n2_ n3_ n4_
                       clear ho hb hg hat
                       obtain ⟨Ao53, co53, eo53⟩ := Kd.R_slice HO260.out
                       (first | subst eo53 | (injection eo53 with f1_ f2_ f3_; have f4_ := f1_.symm; have f5_ := f3_.symm; clear f1_ f2_ f3_; subst f4_; subst f5_))
                       refine hK.out _ _ ?_
                       clear hK K
                       refine norm_ (a' := ?_) ?_ ?_
                       rotate_left
                       ·show Act.put _ (some 122) _ = _
                        simp only [Act.put, sT_, s0_, sS_, i64_w, i32_w]
                        rfl
                       refine pure_ (i := 12) (N := some 123) (v := ?_) (a' := ?_) (fl_ 14 8191) rfl rfl (any_of HT_.out z74_) (fun _ _ _ h => h) (Or.inl ⟨by rfl, ?_⟩) ?_ ?_
                       rotate_left
                       ·intro w'
                        go_simp
                        with_reducible rfl
                       rotate_left
                       ·simp only [Act.put, sT_, s0_, sS_, i64_w, i32_w]
                        rfl
                       refine last_ (i := 13) (N := none) #[true, true, true, true, true, true, true, true, true, true, true, true, true, true] rfl rfl (one_of HT_.out z74_) (by decide) (fun K hK => ?_)
                       have hs54 : w52.cell? ⟨gb248, 3, none⟩ = some (u249003) := (blk_cell BK248.out 3).trans rfl
                       have hfs54 := blk_frozen BK248.out 3
                       have hns54_0 := NB229_248.out
                       have hms54_0 := NB248_229.out
                       refine skip_ (w1 := ?_) (by rfl) rfl ?_ ?_
                       rotate_left
                       ·go_simp
                        rfl
                       refine hK.out _ _ ?_
                       clear hK K
                       refine done_ (done_of HT_.out z74_) ?_
                       try go_wp2
                       go_roundg k3
                       case measure => have := HJ4.out; have := HJ20.out; have := HK3.out; omega
                       case rel => exact ⟨(wrap64 (x14_3 + 1)), (x230000_3), (x230001_3), (x230002_3), (y258), (.slice Ao53 y258.length co53), z71_, H', ⟨by have := HJ4.out; have := HJ20.out; have := HK3.out; omega⟩, ⟨by (with_reducible repeat (first | apply Kd.R_alloc | apply Kd.R_drewN | apply Kd.R_drew)); exact Kd.R_mono (Kd.R_far (p := ⟨gb248, 3, none⟩) (Kd.R_types HO260.out BK248.out (by decide)) (fun _ hk => hk.2) (.slice Ao53 y258.length co53)) (fun _ hk => trivial)⟩, ⟨by (with_reducible repeat (first | refine kN_ ?_ _ | refine kD_ ?_ | refine kA_ ?_ _)); refine blk_far ?_ NB229_248.out _; (with_reducible repeat (first | refine kN_ ?_ _ | refine kD_ ?_ | refine kA_ ?_ _)); exact BK229.out⟩, ⟨by (with_reducible repeat (first | refine kN_ ?_ _ | refine kD_ ?_ | refine kA_ ?_ _)); refine blk_put (cs := #[.int .u64 t239, .int .u64 t242, .string (rdOf ByteArray.empty t235 1), u249003]) ?_ 3 _ rfl; (with_reducible repeat (first | refine kN_ ?_ _ | refine kD_ ?_ | refine kA_ ?_ _)); exact BK248.out⟩, ⟨z14_⟩⟩
                      ·rw [if_neg c47] at H
                       exact absurd H (by simp)
                     ·rw [if_neg c46] at H
                      exact absurd H (by simp)
                    ·rw [if_neg c45] at H
                     exact absurd H (by simp)
                   ·rw [if_neg c44] at H
                    have c44b0 : (t255 == 0) = false := beq_eq_false_iff_ne.mpr c44
                    have c44b1 : (t255 != 0) = true := bne_iff_ne.mpr c44
                    simp only [Option.some.injEq, Prod.mk.injEq] at H
                    obtain ⟨rfl, rfl, rfl, rfl, rfl, rfl⟩ := H
                    have p249 : 0 ≤ (x14_3 : Int) := of_decide_eq_true z70_
                    have q249 : x14_3 < (l0.length : Int) := of_decide_eq_true z70_
                    obtain ⟨ad249, e249, hx249_0, hx249_1⟩ := at_T26 HR0.out x14_3 p249 q249
                    obtain rfl : ad230 = ad249 := (by injection e249)
                    replace hx249_0 := (HB.out.cell (World.block_lt_of_cell? w _ hx249_0)).trans hx249_0
                    replace hx249_1 := (HB.out.cell (World.block_lt_of_cell? w _ hx249_1)).trans hx249_1
                    replace p249 := eq_true p249
                    replace q249 := eq_true q249
                    go_wp2_with (first | ((with_reducible refine gate_callee (f := 31) rfl ?_); refine goesL_ (some 96) rfl rfl Tryz.func31 z74_ rfl #[.string ((rd_T26 l0 x14_3).f1)] rfl z19_ ?_; (with_reducible refine (cambistref12_Parts.calls k3 ((rd_T26 l0 x14_3).f1) t250 _ ?side1 A40.out).mono ?_); (case side1 => exact Glob.below HG.out z14_); rintro e w55 ⟨v251, rfl, ho0, hb⟩; refine ⟨_, rfl, ?_⟩; have n0_ := a_ (Kd.R_below z32_ hb); have n1_ := a_ (Kd.R_lower ho0 (below_size z14_)); have n2_ := a_ (blk_below (g := gb229) (o := .cells #[.int .u64 x230000_3, .int .u64 x230001_3, .string x230002_3, .slice none 0 0] 39 (0, 0)) z57_ hb); have n3_ := a_ (blk_below (g := gb248) (o := .cells #[.int .u64 t239, .int .u64 t242, .string (rdOf ByteArray.empty t235 1), u249003] 39 (0, 0)) z58_ hb); have n4_ := a_ (below_step z14_ hb); clear HO_249003; clear BK229; clear BK248; clear HB; have HO_249003 := n0_; have HO252 := n1_; have BK229 := n2_; have BK248 := n3_; have HB := n4_; clear n0_ n1_ n2_ n3_ n4_; (try clear hb); (try clear hb2); (try clear hk); (try clear hi); (try clear ho0); obtain ⟨Ao56, co56, eo56⟩ := Kd.R_slice HO252.out; subst eo56; have p253 : 0 ≤ (2 : Int) := (by omega); have q253 : 2 < (t250.length : Int) := of_decide_eq_true z70_; obtain ⟨ad253, e253, hx253_0⟩ := Kd.at_string (Kd.R_reads' HO252.out).2.2 2 p253 q253; cases e253; (try simp only [show (2 : Int).toNat = 2 from rfl, Nat.reduceMul, Nat.reduceEqDiff, Go.Addr.add, ↓reduceIte] at hx253_0); have qi253 : (2 < t250.length) = True := eq_true (by omega); (try rw [show ((2 : Int)).toNat = 2 from rfl] at hx253_0); replace p253 := eq_true p253; replace q253 := eq_true q253) | ((with_reducible refine gate_callee (f := 33) rfl ?_); refine goesL_ (some 105) rfl rfl Tryz.func33 z74_ rfl #[.string (rdOf ByteArray.empty t250 2)] rfl z19_ ?_; (with_reducible refine (cambistref01_Parse.calls k3 (rdOf ByteArray.empty t250 2) t254 t255 _ ?side1 A43.out).mono ?_); (case side1 => exact Glob.below HG.out z14_); rintro e w57 ⟨rfl, hb⟩; refine ⟨_, rfl, ?_⟩; have n0_ := a_ (Kd.R_below z32_ hb); have n1_ := a_ (Kd.R_below z36_ hb); have n2_ := a_ (blk_below (g := gb229) (o := .cells #[.int .u64 x230000_3, .int .u64 x230001_3, .string x230002_3, .slice none 0 0] 39 (0, 0)) z57_ hb); have n3_ := a_ (blk_below (g := gb248) (o := .cells #[.int .u64 t239, .int .u64 t242, .string (rdOf ByteArray.empty t235 1), u249003] 39 (0, 0)) z58_ hb); have n4_ := a_ (below_step z14_ hb); clear HO_249003; clear HO252; clear BK229; clear BK248; clear HB; have HO_249003 := n0_; have HO252 := n1_; have BK229 := n2_; have BK248 := n3_; have HB := n4_; clear n0_ n1_ n2_ n3_ n4_; (try clear hb); (try clear hb2); (try clear hk); (try clear hi); have hnb58 := NB229_248.out; have hnc58 := NB248_229.out; have hcz59_0 : w57.cell? ⟨gb229, 0, none⟩ = some (.int .u64 x230000_3) := (blk_cell BK229.out 0).trans rfl; have hcz59_1 : w57.cell? ⟨gb229, 1, none⟩ = some (.int .u64 x230001_3) := (blk_cell BK229.out 1).trans rfl; have hcz59_2 : w57.cell? ⟨gb229, 2, none⟩ = some (.string x230002_3) := (blk_cell BK229.out 2).trans rfl; have hcz59_3 : w57.cell? ⟨gb229, 3, none⟩ = some (.slice none 0 0) := (blk_cell BK229.out 3).trans rfl; have hfz59_0 := blk_frozen BK229.out 0; have hfz59_1 := blk_frozen BK229.out 1; have hfz59_2 := blk_frozen BK229.out 2; have hfz59_3 := blk_frozen BK229.out 3))
                    refine bodyPost_ret (results_ctt rfl _ _ gb229 39 #[.int .u64 0, .int .u64 0, .string (⟨#[]⟩ : ByteArray), .slice none 0 0] (0, 0) _ rfl (by (with_reducible repeat (first | refine kN_ ?_ _ | refine kD_ ?_ | refine kA_ ?_ _)); refine blk_put (cs := #[.int .u64 0, .int .u64 0, .string (⟨#[]⟩ : ByteArray), .slice none 0 0]) ?_ 3 _ rfl; (with_reducible repeat (first | refine kN_ ?_ _ | refine kD_ ?_ | refine kA_ ?_ _)); refine blk_put (cs := #[.int .u64 0, .int .u64 0, .string x230002_3, .slice none 0 0]) ?_ 2 _ rfl; (with_reducible repeat (first | refine kN_ ?_ _ | refine kD_ ?_ | refine kA_ ?_ _)); refine blk_put (cs := #[.int .u64 0, .int .u64 x230001_3, .string x230002_3, .slice none 0 0]) ?_ 1 _ rfl; (with_reducible repeat (first | refine kN_ ?_ _ | refine kD_ ?_ | refine kA_ ?_ _)); refine blk_put (cs := #[.int .u64 x230000_3, .int .u64 x230001_3, .string x230002_3, .slice none 0 0]) ?_ 0 _ rfl; (with_reducible repeat (first | refine kN_ ?_ _ | refine kD_ ?_ | refine kA_ ?_ _)); exact BK229.out) Tryz.underlying39 rfl z74_) rfl ?_
                    exact ⟨_, z64_, z18_, z14_⟩
                  ·rw [if_neg c42] at H
                   exact absurd H (by simp)
                 ·rw [if_neg c41] at H
                  have c41b0 : ((t250.length : Int) == 3) = false := beq_eq_false_iff_ne.mpr c41
                  have c41b1 : ((t250.length : Int) != 3) = true := bne_iff_ne.mpr c41
                  simp only [Option.some.injEq, Prod.mk.injEq] at H
                  obtain ⟨rfl, rfl, rfl, rfl, rfl, rfl⟩ := H
                  have p249 : 0 ≤ (x14_3 : Int) := of_decide_eq_true z70_
                  have q249 : x14_3 < (l0.length : Int) := of_decide_eq_true z70_
                  obtain ⟨ad249, e249, hx249_0, hx249_1⟩ := at_T26 HR0.out x14_3 p249 q249
                  obtain rfl : ad230 = ad249 := (by injection e249)
                  replace hx249_0 := (HB.out.cell (World.block_lt_of_cell? w _ hx249_0)).trans hx249_0
                  replace hx249_1 := (HB.out.cell (World.block_lt_of_cell? w _ hx249_1)).trans hx249_1
                  replace p249 := eq_true p249
                  replace q249 := eq_true q249
                  go_wp2_with (first | ((with_reducible refine gate_callee (f := 31) rfl ?_); refine goesL_ (some 96) rfl rfl Tryz.func31 z74_ rfl #[.string ((rd_T26 l0 x14_3).f1)] rfl z19_ ?_; (with_reducible refine (cambistref12_Parts.calls k3 ((rd_T26 l0 x14_3).f1) t250 _ ?side1 A40.out).mono ?_); (case side1 => exact Glob.below HG.out z14_); rintro e w60 ⟨v251, rfl, ho0, hb⟩; refine ⟨_, rfl, ?_⟩; have n0_ := a_ (Kd.R_below z32_ hb); have n1_ := a_ (Kd.R_lower ho0 (below_size z14_)); have n2_ := a_ (blk_below (g := gb229) (o := .cells #[.int .u64 x230000_3, .int .u64 x230001_3, .string x230002_3, .slice none 0 0] 39 (0, 0)) z57_ hb); have n3_ := a_ (blk_below (g := gb248) (o := .cells #[.int .u64 t239, .int .u64 t242, .string (rdOf ByteArray.empty t235 1), u249003] 39 (0, 0)) z58_ hb); have n4_ := a_ (below_step z14_ hb); clear HO_249003; clear BK229; clear BK248; clear HB; have HO_249003 := n0_; have HO252 := n1_; have BK229 := n2_; have BK248 := n3_; have HB := n4_; clear n0_ n1_ n2_ n3_ n4_; (try clear hb); (try clear hb2); (try clear hk); (try clear hi); (try clear ho0); obtain ⟨Ao61, co61, eo61⟩ := Kd.R_slice HO252.out; subst eo61; have hnb62 := NB229_248.out; have hnc62 := NB248_229.out; have hcz63_0 : w60.cell? ⟨gb229, 0, none⟩ = some (.int .u64 x230000_3) := (blk_cell BK229.out 0).trans rfl; have hcz63_1 : w60.cell? ⟨gb229, 1, none⟩ = some (.int .u64 x230001_3) := (blk_cell BK229.out 1).trans rfl; have hcz63_2 : w60.cell? ⟨gb229, 2, none⟩ = some (.string x230002_3) := (blk_cell BK229.out 2).trans rfl; have hcz63_3 : w60.cell? ⟨gb229, 3, none⟩ = some (.slice none 0 0) := (blk_cell BK229.out 3).trans rfl; have hfz63_0 := blk_frozen BK229.out 0; have hfz63_1 := blk_frozen BK229.out 1; have hfz63_2 := blk_frozen BK229.out 2; have hfz63_3 := blk_frozen BK229.out 3))
                  refine bodyPost_ret (results_ctt rfl _ _ gb229 39 #[.int .u64 0, .int .u64 0, .string (⟨#[]⟩ : ByteArray), .slice none 0 0] (0, 0) _ rfl (by (with_reducible repeat (first | refine kN_ ?_ _ | refine kD_ ?_ | refine kA_ ?_ _)); refine blk_put (cs := #[.int .u64 0, .int .u64 0, .string (⟨#[]⟩ : ByteArray), .slice none 0 0]) ?_ 3 _ rfl; (with_reducible repeat (first | refine kN_ ?_ _ | refine kD_ ?_ | refine kA_ ?_ _)); refine blk_put (cs := #[.int .u64 0, .int .u64 0, .string x230002_3, .slice none 0 0]) ?_ 2 _ rfl; (with_reducible repeat (first | refine kN_ ?_ _ | refine kD_ ?_ | refine kA_ ?_ _)); refine blk_put (cs := #[.int .u64 0, .int .u64 x230001_3, .string x230002_3, .slice none 0 0]) ?_ 1 _ rfl; (with_reducible repeat (first | refine kN_ ?_ _ | refine kD_ ?_ | refine kA_ ?_ _)); refine blk_put (cs := #[.int .u64 x230000_3, .int .u64 x230001_3, .string x230002_3, .slice none 0 0]) ?_ 0 _ rfl; (with_reducible repeat (first | refine kN_ ?_ _ | refine kD_ ?_ | refine kA_ ?_ _)); exact BK229.out) Tryz.underlying39 rfl z74_) rfl ?_
                  exact ⟨_, z64_, z18_, z14_⟩
                ·rw [if_neg c39] at H
                 exact absurd H (by simp)
               ·rw [if_neg c38] at H
                exact absurd H (by simp)
              ·rw [if_neg c37] at H
               have c37b0 : decide (x14_3 ≤ t245) = false := decide_eq_false c37
               clear c37
               simp only [Option.some.injEq, Prod.mk.injEq] at H
               obtain ⟨rfl, rfl, rfl, rfl, rfl, rfl⟩ := H
               have hnb64 := NB248_229.out
               have hnc64 := NB229_248.out
               have hcz65_0 : wr.cell? ⟨gb248, 0, none⟩ = some (.int .u64 t239) := (blk_cell BK248.out 0).trans rfl
               have hcz65_1 : wr.cell? ⟨gb248, 1, none⟩ = some (.int .u64 t242) := (blk_cell BK248.out 1).trans rfl
               have hcz65_2 : wr.cell? ⟨gb248, 2, none⟩ = some (.string (rdOf ByteArray.empty t235 1)) := (blk_cell BK248.out 2).trans rfl
               have hcz65_3 : wr.cell? ⟨gb248, 3, none⟩ = some (u249003) := (blk_cell BK248.out 3).trans rfl
               have hfz65_0 := blk_frozen BK248.out 0
               have hfz65_1 := blk_frozen BK248.out 1
               have hfz65_2 := blk_frozen BK248.out 2
               have hfz65_3 := blk_frozen BK248.out 3
               have hcz66_0 : wr.cell? ⟨gb229, 0, none⟩ = some (.int .u64 x230000_3) := (blk_cell BK229.out 0).trans rfl
               have hcz66_1 : wr.cell? ⟨gb229, 1, none⟩ = some (.int .u64 x230001_3) := (blk_cell BK229.out 1).trans rfl
               have hcz66_2 : wr.cell? ⟨gb229, 2, none⟩ = some (.string x230002_3) := (blk_cell BK229.out 2).trans rfl
               have hcz66_3 : wr.cell? ⟨gb229, 3, none⟩ = some (.slice none 0 0) := (blk_cell BK229.out 3).trans rfl
               have hfz66_0 := blk_frozen BK229.out 0
               have hfz66_1 := blk_frozen BK229.out 1
               have hfz66_2 := blk_frozen BK229.out 2
               have hfz66_3 := blk_frozen BK229.out 3
               obtain ⟨Ao67, co67, eo67⟩ := Kd.R_slice HO_249003.out
               subst eo67
               go_wp2
               refine bodyPost_ret (results_ctt rfl _ _ gb229 39 #[.int .u64 t239, .int .u64 t242, .string (rdOf ByteArray.empty t235 1), .slice Ao67 x249003_3.length co67] (0, 0) _ rfl (by (with_reducible repeat (first | refine kN_ ?_ _ | refine kD_ ?_ | refine kA_ ?_ _)); refine blk_put (cs := #[.int .u64 t239, .int .u64 t242, .string (rdOf ByteArray.empty t235 1), .slice none 0 0]) ?_ 3 _ rfl; (with_reducible repeat (first | refine kN_ ?_ _ | refine kD_ ?_ | refine kA_ ?_ _)); refine blk_put (cs := #[.int .u64 t239, .int .u64 t242, .string x230002_3, .slice none 0 0]) ?_ 2 _ rfl; (with_reducible repeat (first | refine kN_ ?_ _ | refine kD_ ?_ | refine kA_ ?_ _)); refine blk_put (cs := #[.int .u64 t239, .int .u64 x230001_3, .string x230002_3, .slice none 0 0]) ?_ 1 _ rfl; (with_reducible repeat (first | refine kN_ ?_ _ | refine kD_ ?_ | refine kA_ ?_ _)); refine blk_put (cs := #[.int .u64 x230000_3, .int .u64 x230001_3, .string x230002_3, .slice none 0 0]) ?_ 0 _ rfl; (with_reducible repeat (first | refine kN_ ?_ _ | refine kD_ ?_ | refine kA_ ?_ _)); exact BK229.out) Tryz.underlying39 rfl z74_) rfl ?_
               exact ⟨_, z64_, by (with_reducible repeat (first | apply Kd.R_alloc | apply Kd.R_drewN | apply Kd.R_drew)); exact Kd.R_mono (Kd.R_far (p := ⟨gb229, 3, none⟩) (Kd.R_far (p := ⟨gb229, 2, none⟩) (Kd.R_far (p := ⟨gb229, 1, none⟩) (Kd.R_far (p := ⟨gb229, 0, none⟩) (Kd.R_types HO_249003.out BK229.out (by decide)) (fun _ hk => hk.2) (.int .u64 t239)) (fun _ hk => hk.2) (.int .u64 t242)) (fun _ hk => hk.2) (.string (rdOf ByteArray.empty t235 1))) (fun _ hk => hk.2) (.slice Ao67 x249003_3.length co67)) (fun _ hk => trivial), z14_⟩
           ·rw [if_neg c33] at H
            exact absurd H (by simp)
       ·rw [if_neg c19] at H
        exact absurd H (by simp)
      ·rw [if_neg c17] at H
       exact absurd H (by simp)
     ·rw [if_neg c15] at H
      exact absurd H (by simp)
 ·rw [if_neg c2] at H
  exact absurd H (by simp)

/-! ### cambistref02_within: function 63 -/
def cambistref02_within.f (a0 : Int) (a1 : Int) (a2 : Int) : Option (Bool) := if a0 ≥ a1 then (some (decide (a0 ≤ a2))) else (some false)
set_option maxHeartbeats 8000000 in
set_option maxRecDepth 100000 in
theorem cambistref02_within.calls (a0 : Int) (a1 : Int) (a2 : Int) (r : Bool) (w : World) (hG : Glob w) (h : cambistref02_within.f a0 a1 a2 = some r) :
  Calls Tryz.prog 63 #[.int .u8 a0, .int .u8 a1, .int .u8 a2] w fun e w' => e = .returned (.bool r) ∧ Drawn0 w w' := by
 have HG := a_ hG
 clear hG
 have H : (if a0 ≥ a1 then (some (decide (a0 ≤ a2))) else (some false)) = some r := h
 clear h
 by_cases c4 : a0 ≥ a1
 ·rw [if_pos c4] at H
  have c4b0 : decide (a1 ≤ a0) = true := decide_eq_true c4
  clear c4
  obtain rfl := Option.some.inj H
  go_enter Tryz.func63, Tryz.ntmps63
  go_wp2
  go_ret
  exact ⟨z71_, z67_⟩
 ·rw [if_neg c4] at H
  have c4b0 : decide (a1 ≤ a0) = false := decide_eq_false c4
  clear c4
  obtain rfl := Option.some.inj H
  go_enter Tryz.func63, Tryz.ntmps63
  go_wp2
  go_ret
  exact ⟨z71_, z67_⟩

end Go.Proofs.YtjlifcbddednaaaGreatDoor.P
