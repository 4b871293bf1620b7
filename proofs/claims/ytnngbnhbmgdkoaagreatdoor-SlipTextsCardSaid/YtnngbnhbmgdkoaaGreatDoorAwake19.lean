/- What stands at the head of layer 19's statements, reckoned. The walk of what stands at the head of layer 19's statements: it answers true. -/
import Derived.Test.YtnngbnhbmgdkoaaGreatDoorSParse
import Derived.Test.YtnngbnhbmgdkoaaGreatDoorPx10
import Derived.Test.YtnngbnhbmgdkoaaGreatDoorPx3
import Derived.WalkKit
import Derived.Lib.Hide
namespace Go.Proofs.YtnngbnhbmgdkoaaGreatDoor.E
open Go.RowKit Go.Proofs.YtnngbnhbmgdkoaaGreatDoor.P Go.Proofs.YtnngbnhbmgdkoaaGreatDoorW.PrintWords Go.Proofs.YtnngbnhbmgdkoaaGreatDoorW.PrintLast
def wAnn : ByteArray := ⟨#[97, 110, 110]⟩
def wUsd : ByteArray := ⟨#[85, 83, 68]⟩
def aRow : Line_ := ⟨7, ⟨#[82]⟩, -3⟩
def aEnt : Ent_ := ⟨7, 3, ⟨#[82]⟩, [⟨⟨#[97, 110, 110]⟩, ⟨#[85, 83, 68]⟩, -3⟩]⟩
def aTxt : ByteArray := ⟨#[83, 84, 65, 84, 69, 77, 69, 78, 84, 32, 97, 110, 110, 32, 85, 83, 68, 32, 51, 10, 79, 80, 69, 78, 32, 53, 10, 80, 79, 83, 84, 32, 55, 32, 82, 32, 45, 51, 10, 67, 76, 79, 83, 69, 32, 50, 10]⟩
def aCut : ByteArray := ⟨#[83, 84, 65, 84, 69, 77, 69, 78, 84, 32, 97, 110, 110, 32, 85, 83, 68, 32, 51, 10, 79, 80, 69, 78, 32, 53, 10, 80, 79, 83, 84, 32, 55, 32, 82, 32, 45, 51, 10, 67, 76, 79, 83, 69, 32, 50]⟩
set_option maxRecDepth 100000 in
theorem a_text : slip_Text.f 20 ⟨#[97, 110, 110]⟩ ⟨#[85, 83, 68]⟩ 3 5 [aRow] 2 = some (aTxt, 0) := by kernel_rfl
set_option maxRecDepth 100000 in
theorem a_text3 : slip_Text.f 20 ⟨#[97, 110, 110]⟩ ⟨#[85, 83, 68]⟩ 3 5 [aRow] 3 = some (⟨#[]⟩, 190) := by kernel_rfl
set_option maxRecDepth 100000 in
theorem a_parse : slip_Parse.f 20 aTxt = some (⟨#[97, 110, 110]⟩, ⟨#[85, 83, 68]⟩, 3, 5, [aRow], 2, 0) := by kernel_rfl
set_option maxRecDepth 100000 in
theorem a_cut : slip_Parse.f 20 aCut = some (⟨#[]⟩, ⟨#[]⟩, 0, 0, [], 0, 190) := by kernel_rfl
set_option maxRecDepth 100000 in
theorem a_same : cambistref19_Same.f 20 ⟨#[97, 110, 110]⟩ ⟨#[85, 83, 68]⟩ 3 5 [aRow] 2 ⟨#[97, 110, 110]⟩ ⟨#[85, 83, 68]⟩ 3 5 [aRow] 2 = some true := by kernel_rfl
set_option maxRecDepth 100000 in
theorem a_make : slip_Make.f 20 [aEnt] ⟨#[97, 110, 110]⟩ ⟨#[85, 83, 68]⟩ 3 = some (⟨#[97, 110, 110]⟩, ⟨#[85, 83, 68]⟩, 3, 0, [aRow], -3, 0) := by kernel_rfl
set_option maxRecDepth 100000 in
theorem a_check : slip_Check.f 20 ⟨#[97, 110, 110]⟩ ⟨#[85, 83, 68]⟩ 3 5 [aRow] 3 = some 190 := by kernel_rfl
end Go.Proofs.YtnngbnhbmgdkoaaGreatDoor.E
namespace Go.Proofs.YtnngbnhbmgdkoaaGreatDoor.E
open Go.RowKit Go.Proofs.YtnngbnhbmgdkoaaGreatDoor.P Go.Proofs.YtnngbnhbmgdkoaaGreatDoorW.PrintWords Go.Proofs.YtnngbnhbmgdkoaaGreatDoorW.PrintLast
def cambistlaw19_awake.f : Option Bool := some true
theorem row_at {w : World} {g : Nat} (h : w.heap[g]? = some (.cells #[.int .u64 7, .string ⟨#[82]⟩, .int .i64 (-3)] 37 (0, 0))) : Kd.C k37 w (some ⟨g, 0, none⟩) [aRow].length [aRow] := by
  refine ⟨rfl, by decide, fun _ => ⟨_, rfl, fun j p hj => ?_⟩⟩
  have hadd : ∀ n, (⟨g, 0, none⟩ : Addr).add n = ⟨g, n, none⟩ := fun n => by unfold Addr.add; simp; omega
  match j, hj with
  | 0, hj =>
    obtain rfl := Option.some.inj hj
    refine ⟨_, rfl, k37_mk _ _, fun i u hu => ?_⟩
    rw [hadd, blk_cell h]
    match i, hu with
    | 0, hu => exact hu
    | 1, hu => exact hu
    | 2, hu => exact hu
theorem legs_at {w : World} {g : Nat} (h : w.heap[g]? = some (.cells #[.string ⟨#[97, 110, 110]⟩, .string ⟨#[85, 83, 68]⟩, .int .i64 (-3)] 40 (0, 0))) : Kd.C k40 w (some ⟨g, 0, none⟩) aEnt.f3.length aEnt.f3 := by
  refine ⟨rfl, by decide, fun _ => ⟨_, rfl, fun j p hj => ?_⟩⟩
  have hadd : ∀ n, (⟨g, 0, none⟩ : Addr).add n = ⟨g, n, none⟩ := fun n => by unfold Addr.add; simp; omega
  match j, hj with
  | 0, hj =>
    obtain rfl := Option.some.inj hj
    refine ⟨_, rfl, k40_mk _ _, fun i u hu => ?_⟩
    rw [hadd, blk_cell h]
    match i, hu with
    | 0, hu => exact hu
    | 1, hu => exact hu
    | 2, hu => exact hu
theorem ent_at {w : World} {g : Nat} {A : Option Addr} (h : w.heap[g]? = some (.cells #[.int .u64 7, .int .u64 3, .string ⟨#[82]⟩, .slice A 1 1] 43 (0, 0))) (hL : Kd.C k40 w A aEnt.f3.length aEnt.f3) : Kd.C k43 w (some ⟨g, 0, none⟩) [aEnt].length [aEnt] := by
  refine ⟨rfl, by decide, fun _ => ⟨_, rfl, fun j p hj => ?_⟩⟩
  have hadd : ∀ n, (⟨g, 0, none⟩ : Addr).add n = ⟨g, n, none⟩ := fun n => by unfold Addr.add; simp; omega
  match j, hj with
  | 0, hj =>
    obtain rfl := Option.some.inj hj
    refine ⟨_, rfl, k43_mk (c3 := 1) _ _ (by decide) hL, fun i u hu => ?_⟩
    rw [hadd, blk_cell h]
    match i, hu with
    | 0, hu => exact hu
    | 1, hu => exact hu
    | 2, hu => exact hu
    | 3, hu => exact hu
set_option maxHeartbeats 4000000 in
set_option maxRecDepth 100000 in
set_option linter.unusedSimpArgs false in
set_option linter.unusedVariables false in
theorem cambistlaw19_awake.calls (r : Bool) (w : World) (hG : Glob w) (h : cambistlaw19_awake.f = some r) : Calls Tryz.prog 4 #[] w fun e w' => e = .returned (.bool r) ∧ Below w.heap.size w w' := by
  obtain rfl : true = r := Option.some.inj h
  clear h
  have HG := Lib.hid hG; clear hG
  obtain ⟨x, hx⟩ : ∃ x, aTxt = x := ⟨_, rfl⟩
  have hxs : x.size = 47 := by rw [← hx]; rfl
  have hxe : x.extract 0 46 = aCut := by rw [← hx]; decide +kernel
  have hxt : (x.toList == ([83, 84, 65, 84, 69, 77, 69, 78, 84, 32, 97, 110, 110, 32, 85, 83, 68, 32, 51, 10, 79, 80, 69, 78, 32, 53, 10, 80, 79, 83, 84, 32, 55, 32, 82, 32, 45, 51, 10, 67, 76, 79, 83, 69, 32, 50, 10] : List UInt8)) = true := by rw [← hx]; decide +kernel
  have HTX := Lib.hid a_text; have HPA := Lib.hid a_parse
  rw [hx] at HTX HPA
  have HXT := Lib.hid hxt
  clear hx hxt
  go_enter Tryz.func4, Tryz.ntmps4
  go_upto_region 2 with (fail)
  obtain ⟨w2, hw2⟩ : ∃ W, W = (w.alloc (.cells #[.int .u64 7, .string ⟨#[82]⟩, .int .i64 (-3)] 37)).alloc (.cells #[.string ⟨#[97, 110, 110]⟩, .string ⟨#[85, 83, 68]⟩, .int .u64 3, .int .i64 5, .slice (some ⟨w.heap.size, 0, none⟩) 1 1, .int .i64 2] 25) := ⟨_, rfl⟩
  have hb2 : Below w.heap.size w w2 := by rw [hw2]; exact below_alloc (below_alloc (Below.refl _ _) _) _
  have hL2 : w2.heap[w.heap.size]? = some (.cells #[.int .u64 7, .string ⟨#[82]⟩, .int .i64 (-3)] 37 (0, 0)) := by rw [hw2]; exact blk_below (heap_alloc_new w _) (below_alloc (Below.refl _ _) _)
  have hE2 : w2.heap[w.heap.size + 1]? = some (.cells #[.string ⟨#[97, 110, 110]⟩, .string ⟨#[85, 83, 68]⟩, .int .u64 3, .int .i64 5, .slice (some ⟨w.heap.size, 0, none⟩) 1 1, .int .i64 2] 25 (0, 0)) := by rw [hw2]; simpa using heap_alloc_new (w.alloc (.cells #[.int .u64 7, .string ⟨#[82]⟩, .int .i64 (-3)] 37)) (.cells #[.string ⟨#[97, 110, 110]⟩, .string ⟨#[85, 83, 68]⟩, .int .u64 3, .int .i64 5, .slice (some ⟨w.heap.size, 0, none⟩) 1 1, .int .i64 2] 25)
  rw [← hw2]
  clear hw2
  obtain ⟨gl, hgl⟩ : ∃ g, g = w.heap.size := ⟨_, rfl⟩
  obtain ⟨gs, hgs⟩ : ∃ g, g = w.heap.size + 1 := ⟨_, rfl⟩
  rw [← hgs] at hE2 ⊢
  rw [← hgl] at hL2 hE2 ⊢
  have HB2 : Hid (Below w.heap.size w w2) := Lib.hid hb2; have HL2 := Lib.hid hL2; have HE2 := Lib.hid hE2
  have HGS : Hid (w.heap.size ≤ gs ∧ gl < gs ∧ w.heap.size ≤ gl) := Lib.hid (by omega)
  have HT : Hid (Calls Tryz.prog 6 #[.agg #[.string ⟨#[97, 110, 110]⟩, .string ⟨#[85, 83, 68]⟩, .int .u64 3, .int .i64 5, .slice (some ⟨gl, 0, none⟩) 1 1, .int .i64 2]] w2 fun e w' => e = .returned (.tuple #[.string x, .int .i64 0]) ∧ Below w2.heap.size w2 w') :=
    Lib.hid (slip_Text.calls 20 _ _ 3 5 (some ⟨gl, 0, none⟩) 1 [aRow] 2 x 0 w2 (HG.out.below HB2.out) (row_at hL2) (by decide) HTX.out)
  have cw0 : w2.cell? ⟨gs, 0, none⟩ = some (.string ⟨#[97, 110, 110]⟩) := (blk_cell hE2 0).trans rfl
  have cw1 : w2.cell? ⟨gs, 1, none⟩ = some (.string ⟨#[85, 83, 68]⟩) := (blk_cell hE2 1).trans rfl
  have cw2 : w2.cell? ⟨gs, 2, none⟩ = some (.int .u64 3) := (blk_cell hE2 2).trans rfl
  have cw3 : w2.cell? ⟨gs, 3, none⟩ = some (.int .i64 5) := (blk_cell hE2 3).trans rfl
  have cw4 : w2.cell? ⟨gs, 4, none⟩ = some (.slice (some ⟨gl, 0, none⟩) 1 1) := (blk_cell hE2 4).trans rfl
  have cw5 : w2.cell? ⟨gs, 5, none⟩ = some (.int .i64 2) := (blk_cell hE2 5).trans rfl
  clear hb2 hL2 hE2 HTX hgs hgl
  go_upto_region 3 with (go_at_call 6; refine (HT.out).mono ?_; rintro e w3 ⟨rfl, hb⟩; have HB3 := Lib.hid hb; clear hb)
  clear HT cw0 cw1 cw2 cw3 cw4 cw5
  have HP : Hid (Calls Tryz.prog 8 #[.string x] w3 fun e w' => ∃ v4_ : Value, e = .returned (.tuple #[.agg #[.string ⟨#[97, 110, 110]⟩, .string ⟨#[85, 83, 68]⟩, .int .u64 3, .int .i64 5, v4_, .int .i64 2], .int .i64 0]) ∧ Kd.R k37 37 w' w3.heap.size (fun _ => True) v4_ [aRow] ∧ Below w3.heap.size w3 w') :=
    Lib.hid (slip_Parse.calls 20 x _ _ 3 5 [aRow] 2 0 w3 (HG.out.below (below_step HB2.out HB3.out)) HPA.out)
  have HB23 := Lib.hid (below_step HB2.out HB3.out)
  have HL3 := Lib.hid (blk_below HL2.out HB3.out); have HE3 := Lib.hid (blk_below HE2.out HB3.out)
  clear HPA HL2 HE2 HB2 HB3
  go_upto_region 4 with (first | (go_at_call 8; refine (HP.out).mono ?_; rintro e w4 ⟨v, rfl, hR, hb⟩; obtain ⟨Ap, cp, hv⟩ := Kd.R_slice hR; subst hv; have HR4 := Lib.hid hR; have HB4 := Lib.hid hb; clear hR hb))
  clear HP
  obtain ⟨w5, hw5⟩ : ∃ W, W = w4.alloc (.cells #[.string ⟨#[97, 110, 110]⟩, .string ⟨#[85, 83, 68]⟩, .int .u64 3, .int .i64 5, .slice Ap 1 cp, .int .i64 2] 25) := ⟨_, rfl⟩
  have hb5 : Below w4.heap.size w4 w5 := by rw [hw5]; exact below_alloc (Below.refl _ _) _
  have hF5 : w5.heap[w4.heap.size]? = some (.cells #[.string ⟨#[97, 110, 110]⟩, .string ⟨#[85, 83, 68]⟩, .int .u64 3, .int .i64 5, .slice Ap 1 cp, .int .i64 2] 25 (0, 0)) := by rw [hw5]; exact heap_alloc_new w4 _
  rw [← hw5]
  clear hw5
  have hL5 := blk_below (blk_below HL3.out HB4.out) hb5
  have hE5 := blk_below (blk_below HE3.out HB4.out) hb5
  have hR5 := Kd.R_reads' (Kd.R_below HR4.out hb5)
  have HB5 : Hid (Below w.heap.size w w5) := Lib.hid (below_step (below_step HB23.out HB4.out) hb5)
  obtain ⟨gp, hgp⟩ : ∃ g, g = w4.heap.size := ⟨_, rfl⟩
  rw [← hgp] at hF5 ⊢
  have HS : Hid (Calls Tryz.prog 10 #[.agg #[.string ⟨#[97, 110, 110]⟩, .string ⟨#[85, 83, 68]⟩, .int .u64 3, .int .i64 5, .slice Ap 1 cp, .int .i64 2], .agg #[.string ⟨#[97, 110, 110]⟩, .string ⟨#[85, 83, 68]⟩, .int .u64 3, .int .i64 5, .slice (some ⟨gl, 0, none⟩) 1 1, .int .i64 2]] w5 fun e w' => e = .returned (.bool true) ∧ Below w5.heap.size w5 w') :=
    Lib.hid (cambistref19_Same.calls 20 _ _ 3 5 Ap cp [aRow] 2 _ _ 3 5 (some ⟨gl, 0, none⟩) 1 [aRow] 2 true w5 (HG.out.below HB5.out) hR5.2.2 hR5.2.1 (row_at hL5) (by decide) a_same)
  have cw0 : w5.cell? ⟨gs, 0, none⟩ = some (.string ⟨#[97, 110, 110]⟩) := (blk_cell hE5 0).trans rfl
  have cw1 : w5.cell? ⟨gs, 1, none⟩ = some (.string ⟨#[85, 83, 68]⟩) := (blk_cell hE5 1).trans rfl
  have cw2 : w5.cell? ⟨gs, 2, none⟩ = some (.int .u64 3) := (blk_cell hE5 2).trans rfl
  have cw3 : w5.cell? ⟨gs, 3, none⟩ = some (.int .i64 5) := (blk_cell hE5 3).trans rfl
  have cw4 : w5.cell? ⟨gs, 4, none⟩ = some (.slice (some ⟨gl, 0, none⟩) 1 1) := (blk_cell hE5 4).trans rfl
  have cw5 : w5.cell? ⟨gs, 5, none⟩ = some (.int .i64 2) := (blk_cell hE5 5).trans rfl
  have cp0 : w5.cell? ⟨gp, 0, none⟩ = some (.string ⟨#[97, 110, 110]⟩) := (blk_cell hF5 0).trans rfl
  have cp1 : w5.cell? ⟨gp, 1, none⟩ = some (.string ⟨#[85, 83, 68]⟩) := (blk_cell hF5 1).trans rfl
  have cp2 : w5.cell? ⟨gp, 2, none⟩ = some (.int .u64 3) := (blk_cell hF5 2).trans rfl
  have cp3 : w5.cell? ⟨gp, 3, none⟩ = some (.int .i64 5) := (blk_cell hF5 3).trans rfl
  have cp4 : w5.cell? ⟨gp, 4, none⟩ = some (.slice Ap 1 cp) := (blk_cell hF5 4).trans rfl
  have cp5 : w5.cell? ⟨gp, 5, none⟩ = some (.int .i64 2) := (blk_cell hF5 5).trans rfl
  have HL5 := Lib.hid hL5; have HE5 := Lib.hid hE5
  clear hb5 hF5 hL5 hE5 hR5 HR4 HB4 HB23 HL3 HE3 hgp
  go_upto_region 5 with (go_at_call 10; refine (HS.out).mono ?_; rintro e w6 ⟨rfl, hb⟩; have HB6 := Lib.hid (below_step HB5.out hb); have HL6 := Lib.hid (blk_below HL5.out hb); have HE6 := Lib.hid (blk_below HE5.out hb); clear hb)
  clear HS HB5 HL5 HE5 cw0 cw1 cw2 cw3 cw4 cw5 cp0 cp1 cp2 cp3 cp4 cp5
  have cw5 : w6.cell? ⟨gs, 5, none⟩ = some (.int .i64 2) := (blk_cell HE6.out 5).trans rfl
  have fz5 := blk_frozen HE6.out 5
  go_upto_region 6 with (fail)
  clear cw5 fz5
  have HB7 := Lib.hid (HB6.out.setCell (p := ⟨gs, 5, none⟩) HGS.out.1 (.int .i64 3))
  have HE7 := Lib.hid (blk_put HE6.out 5 (.int .i64 3) (cs' := #[.string ⟨#[97, 110, 110]⟩, .string ⟨#[85, 83, 68]⟩, .int .u64 3, .int .i64 5, .slice (some ⟨gl, 0, none⟩) 1 1, .int .i64 3]) rfl)
  have HL7 := Lib.hid (blk_far HL6.out (p := ⟨gs, 5, none⟩) (Nat.ne_of_lt HGS.out.2.1) (.int .i64 3))
  clear HB6 HL6 HE6
  generalize w6.setCell ⟨gs, 5, none⟩ (.int .i64 3) = w7 at HB7 HE7 HL7 ⊢
  have HT : Hid (Calls Tryz.prog 6 #[.agg #[.string ⟨#[97, 110, 110]⟩, .string ⟨#[85, 83, 68]⟩, .int .u64 3, .int .i64 5, .slice (some ⟨gl, 0, none⟩) 1 1, .int .i64 3]] w7 fun e w' => e = .returned (.tuple #[.string ⟨#[]⟩, .int .i64 190]) ∧ Below w7.heap.size w7 w') :=
    Lib.hid (slip_Text.calls 20 _ _ 3 5 (some ⟨gl, 0, none⟩) 1 [aRow] 3 ⟨#[]⟩ 190 w7 (HG.out.below HB7.out) (row_at HL7.out) (by decide) a_text3)
  have cw0 : w7.cell? ⟨gs, 0, none⟩ = some (.string ⟨#[97, 110, 110]⟩) := (blk_cell HE7.out 0).trans rfl
  have cw1 : w7.cell? ⟨gs, 1, none⟩ = some (.string ⟨#[85, 83, 68]⟩) := (blk_cell HE7.out 1).trans rfl
  have cw2 : w7.cell? ⟨gs, 2, none⟩ = some (.int .u64 3) := (blk_cell HE7.out 2).trans rfl
  have cw3 : w7.cell? ⟨gs, 3, none⟩ = some (.int .i64 5) := (blk_cell HE7.out 3).trans rfl
  have cw4 : w7.cell? ⟨gs, 4, none⟩ = some (.slice (some ⟨gl, 0, none⟩) 1 1) := (blk_cell HE7.out 4).trans rfl
  have cw5 : w7.cell? ⟨gs, 5, none⟩ = some (.int .i64 3) := (blk_cell HE7.out 5).trans rfl
  go_upto_region 7 with (go_at_call 6; refine (HT.out).mono ?_; rintro e w8 ⟨rfl, hb⟩; have HB8 := Lib.hid (below_step HB7.out hb); have HL8 := Lib.hid (blk_below HL7.out hb); have HE8 := Lib.hid (blk_below HE7.out hb); clear hb)
  clear HT cw0 cw1 cw2 cw3 cw4 cw5 HB7 HL7 HE7
  have HM : Hid (Calls Tryz.prog 13 #[.slice (some ⟨w8.heap.size + 1, 0, none⟩) 1 1, .string ⟨#[97, 110, 110]⟩, .string ⟨#[85, 83, 68]⟩, .int .u64 3] ((w8.alloc (.cells #[.string ⟨#[97, 110, 110]⟩, .string ⟨#[85, 83, 68]⟩, .int .i64 (-3)] 40)).alloc (.cells #[.int .u64 7, .int .u64 3, .string ⟨#[82]⟩, .slice (some ⟨w8.heap.size, 0, none⟩) 1 1] 43)) fun e w' => ∃ v4_ : Value, e = .returned (.tuple #[.agg #[.string ⟨#[97, 110, 110]⟩, .string ⟨#[85, 83, 68]⟩, .int .u64 3, .int .i64 0, v4_, .int .i64 (-3)], .int .i64 0]) ∧ (∃ A c, v4_ = .slice A 1 c) ∧ Below w8.heap.size w8 w') := Lib.hid (by
    obtain ⟨W, hW⟩ : ∃ W, W = (w8.alloc (.cells #[.string ⟨#[97, 110, 110]⟩, .string ⟨#[85, 83, 68]⟩, .int .i64 (-3)] 40)).alloc (.cells #[.int .u64 7, .int .u64 3, .string ⟨#[82]⟩, .slice (some ⟨w8.heap.size, 0, none⟩) 1 1] 43) := ⟨_, rfl⟩
    have hb : Below w8.heap.size w8 W := by rw [hW]; exact below_alloc (below_alloc (Below.refl _ _) _) _
    have hl : W.heap[w8.heap.size]? = some (.cells #[.string ⟨#[97, 110, 110]⟩, .string ⟨#[85, 83, 68]⟩, .int .i64 (-3)] 40 (0, 0)) := by rw [hW]; exact blk_below (heap_alloc_new w8 _) (below_alloc (Below.refl _ _) _)
    have he : W.heap[w8.heap.size + 1]? = some (.cells #[.int .u64 7, .int .u64 3, .string ⟨#[82]⟩, .slice (some ⟨w8.heap.size, 0, none⟩) 1 1] 43 (0, 0)) := by rw [hW]; simpa using heap_alloc_new (w8.alloc (.cells #[.string ⟨#[97, 110, 110]⟩, .string ⟨#[85, 83, 68]⟩, .int .i64 (-3)] 40)) (.cells #[.int .u64 7, .int .u64 3, .string ⟨#[82]⟩, .slice (some ⟨w8.heap.size, 0, none⟩) 1 1] 43)
    rw [← hW]
    refine (slip_Make.calls 20 (some ⟨w8.heap.size + 1, 0, none⟩) 1 [aEnt] _ _ 3 _ _ 3 0 [aRow] (-3) 0 W (HG.out.below (below_step HB8.out hb)) (ent_at he (legs_at hl)) (by decide) a_make).mono ?_
    rintro e w' ⟨v, he, hR, hb'⟩
    obtain ⟨A, c, hv⟩ := Kd.R_slice hR
    exact ⟨v, he, ⟨A, c, hv⟩, below_step hb hb'⟩)
  go_upto_region 8 with (go_at_call 13; refine (HM.out).mono ?_; rintro e w9 ⟨v, rfl, ⟨Am, cm, rfl⟩, hb⟩; have HB9 := Lib.hid (below_step HB8.out hb); have HL9 := Lib.hid (blk_below HL8.out hb); have HE9 := Lib.hid (blk_below HE8.out hb); clear hb)
  clear HM HB8 HL8 HE8
  obtain ⟨wa, hwa⟩ : ∃ W, W = w9.alloc (.cells #[.string ⟨#[97, 110, 110]⟩, .string ⟨#[85, 83, 68]⟩, .int .u64 3, .int .i64 0, .slice Am 1 cm, .int .i64 (-3)] 25) := ⟨_, rfl⟩
  have hba : Below w9.heap.size w9 wa := by rw [hwa]; exact below_alloc (Below.refl _ _) _
  have hFa : wa.heap[w9.heap.size]? = some (.cells #[.string ⟨#[97, 110, 110]⟩, .string ⟨#[85, 83, 68]⟩, .int .u64 3, .int .i64 0, .slice Am 1 cm, .int .i64 (-3)] 25 (0, 0)) := by rw [hwa]; exact heap_alloc_new w9 _
  rw [← hwa]
  clear hwa
  obtain ⟨gm, hgm⟩ : ∃ g, g = w9.heap.size := ⟨_, rfl⟩
  rw [← hgm] at hFa ⊢
  have HBA := Lib.hid (below_step HB9.out hba); have HLA := Lib.hid (blk_below HL9.out hba); have HEA := Lib.hid (blk_below HE9.out hba); have HFA := Lib.hid hFa
  have cm4 : wa.cell? ⟨gm, 4, none⟩ = some (.slice Am 1 cm) := (blk_cell hFa 4).trans rfl
  clear hba hFa hgm HB9 HL9 HE9
  go_upto_region 10 with (fail)
  clear cm4
  have HP : Hid (Calls Tryz.prog 8 #[.string (x.extract 0 46)] wa fun e w' => ∃ v4_ : Value, e = .returned (.tuple #[.agg #[.string ⟨#[]⟩, .string ⟨#[]⟩, .int .u64 0, .int .i64 0, v4_, .int .i64 0], .int .i64 190]) ∧ (∃ A c, v4_ = .slice A 0 c) ∧ Below wa.heap.size wa w') := Lib.hid (by
    rw [hxe]
    refine (slip_Parse.calls 20 aCut _ _ 0 0 [] 0 190 wa (HG.out.below HBA.out) a_cut).mono ?_
    rintro e w' ⟨v, he, hR, hb⟩
    obtain ⟨A, c, hv⟩ := Kd.R_slice hR
    exact ⟨v, he, ⟨A, c, hv⟩, hb⟩)
  clear hxe
  go_upto_region 11 with (go_at_call 8; refine (HP.out).mono ?_; rintro e wb ⟨v, rfl, ⟨Aq, cq, rfl⟩, hb⟩; have HBB := Lib.hid hb; clear hb)
  clear HP
  obtain ⟨wc, hwc⟩ : ∃ W, W = wb.alloc (.cells #[.string ⟨#[]⟩, .string ⟨#[]⟩, .int .u64 0, .int .i64 0, .slice Aq 0 cq, .int .i64 0] 25) := ⟨_, rfl⟩
  have hbc : Below wa.heap.size wa wc := by rw [hwc]; exact below_alloc HBB.out _
  rw [← hwc]
  clear hwc
  have HBC := Lib.hid (below_step HBA.out hbc); have hL := blk_below HLA.out hbc; have hE := blk_below HEA.out hbc; have hF := blk_below HFA.out hbc
  clear hbc HBA HLA HEA HFA HBB
  have HC : Hid (Calls Tryz.prog 11 #[.agg #[.string ⟨#[97, 110, 110]⟩, .string ⟨#[85, 83, 68]⟩, .int .u64 3, .int .i64 5, .slice (some ⟨gl, 0, none⟩) 1 1, .int .i64 3]] wc fun e w' => e = .returned (.int .i64 190) ∧ Below wc.heap.size wc w') :=
    Lib.hid (slip_Check.calls 20 _ _ 3 5 (some ⟨gl, 0, none⟩) 1 [aRow] 3 190 wc (HG.out.below HBC.out) (row_at hL) (by decide) a_check)
  have cw0 : wc.cell? ⟨gs, 0, none⟩ = some (.string ⟨#[97, 110, 110]⟩) := (blk_cell hE 0).trans rfl
  have cw1 : wc.cell? ⟨gs, 1, none⟩ = some (.string ⟨#[85, 83, 68]⟩) := (blk_cell hE 1).trans rfl
  have cw2 : wc.cell? ⟨gs, 2, none⟩ = some (.int .u64 3) := (blk_cell hE 2).trans rfl
  have cw3 : wc.cell? ⟨gs, 3, none⟩ = some (.int .i64 5) := (blk_cell hE 3).trans rfl
  have cw4 : wc.cell? ⟨gs, 4, none⟩ = some (.slice (some ⟨gl, 0, none⟩) 1 1) := (blk_cell hE 4).trans rfl
  have cw5 : wc.cell? ⟨gs, 5, none⟩ = some (.int .i64 3) := (blk_cell hE 5).trans rfl
  have cm5 : wc.cell? ⟨gm, 5, none⟩ = some (.int .i64 (-3)) := (blk_cell hF 5).trans rfl
  have hxt := HXT.out
  clear hL hE hF
  go_wp2_with (go_at_call 11; refine (HC.out).mono ?_; rintro e wd ⟨rfl, hb⟩; have HBD := Lib.hid (below_step HBC.out hb); clear hb)
  go_ret
  exact ⟨rfl, HBD.out⟩
end Go.Proofs.YtnngbnhbmgdkoaaGreatDoor.E
