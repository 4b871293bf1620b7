/- What stands at the head of layer 12's statements, reckoned. The walk of what stands at the head of layer 12's statements: it answers true. -/
import Derived.Test.YtjlifcbddednaaaGreatDoorJSum
import Derived.Test.YtjlifcbddednaaaGreatDoorJRead
import Derived.Test.YtjlifcbddednaaaGreatDoorPx15
import Derived.Test.YtjlifcbddednaaaGreatDoorMini
import Derived.Test.YtjlifcbddednaaaGreatDoorLib
import Derived.WalkKit
import Derived.Lib.Hide
namespace Go.Proofs.YtjlifcbddednaaaGreatDoor.E
open Go.RowKit Go.Proofs.YtjlifcbddednaaaGreatDoor.P Go.Proofs.YtjlifcbddednaaaGreatDoorW.PrintWords Go.Proofs.YtjlifcbddednaaaGreatDoorW.PrintLast
def aLegs : List Leg_ := [⟨⟨#[97, 110, 110]⟩, ⟨#[85, 83, 68]⟩, 5⟩, ⟨⟨#[98, 111, 98]⟩, ⟨#[85, 83, 68]⟩, -5⟩]
def aP0 : S26 := ⟨⟨#[101, 124, 48, 48, 48, 48, 48, 48, 48, 48, 48, 48, 48, 48, 48, 48, 48, 55, 124, 48]⟩, ⟨#[48, 48, 48, 48, 48, 48, 48, 48, 48, 48, 48, 48, 48, 48, 48, 49, 124, 82, 124, 50]⟩⟩
def aP1 : S26 := ⟨⟨#[101, 124, 48, 48, 48, 48, 48, 48, 48, 48, 48, 48, 48, 48, 48, 48, 48, 55, 124, 49, 48, 48, 48, 48]⟩, ⟨#[97, 110, 110, 124, 85, 83, 68, 124, 53]⟩⟩
def aP2 : S26 := ⟨⟨#[101, 124, 48, 48, 48, 48, 48, 48, 48, 48, 48, 48, 48, 48, 48, 48, 48, 55, 124, 49, 48, 48, 48, 49]⟩, ⟨#[98, 111, 98, 124, 85, 83, 68, 124, 45, 53]⟩⟩
def aEnt : Ent_ := ⟨7, 1, ⟨#[82]⟩, aLegs⟩
set_option maxRecDepth 100000 in
theorem a_pairs : journal_Pairs.f 20 7 1 ⟨#[82]⟩ aLegs = some ([aP0, aP1, aP2], 0) := by kernel_rfl
set_option maxRecDepth 100000 in
theorem a_read : journal_Read.f 20 [aP0, aP1, aP2] = some ([aEnt], 0) := by kernel_rfl
set_option maxRecDepth 100000 in
theorem a_read1 : journal_Read.f 20 [aP0] = some ([], 121) := by kernel_rfl
set_option maxRecDepth 100000 in
theorem a_sum : journal_Sum.f [aEnt] ⟨#[97, 110, 110]⟩ ⟨#[85, 83, 68]⟩ 1 2 = some (5, 0) := by kernel_rfl
set_option maxRecDepth 100000 in
theorem a_check : journal_Check.f 7 1 ⟨#[82]⟩ aLegs = some 0 := by kernel_rfl
set_option maxRecDepth 100000 in
theorem a_check0 : journal_Check.f 0 0 ⟨#[]⟩ [] = some 120 := by kernel_rfl
end Go.Proofs.YtjlifcbddednaaaGreatDoor.E
namespace Go.Proofs.YtjlifcbddednaaaGreatDoor.E
open Go.RowKit Go.Proofs.YtjlifcbddednaaaGreatDoor.P Go.Proofs.YtjlifcbddednaaaGreatDoorW.PrintWords Go.Proofs.YtjlifcbddednaaaGreatDoorW.PrintLast
def cambistlaw12_awake.f : Option Bool := some true
theorem legs_new (w : World) : Kd.C k36 (w.alloc (.cells #[.string ⟨#[97, 110, 110]⟩, .string ⟨#[85, 83, 68]⟩, .int .i64 5, .string ⟨#[98, 111, 98]⟩, .string ⟨#[85, 83, 68]⟩, .int .i64 (-5)] 36)) (some ⟨w.heap.size, 0, none⟩) aLegs.length aLegs := by
  have h := heap_alloc_new w (.cells #[.string ⟨#[97, 110, 110]⟩, .string ⟨#[85, 83, 68]⟩, .int .i64 5, .string ⟨#[98, 111, 98]⟩, .string ⟨#[85, 83, 68]⟩, .int .i64 (-5)] 36)
  refine ⟨rfl, by decide, fun _ => ⟨_, rfl, fun j p hj => ?_⟩⟩
  have hadd : ∀ n, (⟨w.heap.size, 0, none⟩ : Addr).add n = ⟨w.heap.size, n, none⟩ := fun n => by unfold Addr.add; simp; omega
  match j, hj with
  | 0, hj =>
    obtain rfl := Option.some.inj hj
    refine ⟨_, rfl, k36_mk _ _, fun i u hu => ?_⟩
    rw [hadd, blk_cell h]
    match i, hu with
    | 0, hu => exact hu
    | 1, hu => exact hu
    | 2, hu => exact hu
  | 1, hj =>
    obtain rfl := Option.some.inj hj
    refine ⟨_, rfl, k36_mk _ _, fun i u hu => ?_⟩
    rw [hadd, blk_cell h]
    match i, hu with
    | 0, hu => exact hu
    | 1, hu => exact hu
    | 2, hu => exact hu
set_option maxHeartbeats 4000000 in
set_option maxRecDepth 100000 in
set_option linter.unusedSimpArgs false in
theorem cambistlaw12_awake.calls (r : Bool) (w : World) (hG : Glob w) (h : cambistlaw12_awake.f = some r) : Calls Tryz.prog 4 #[] w fun e w' => e = .returned (.bool r) ∧ Below w.heap.size w w' := by
  obtain rfl : true = r := Option.some.inj h
  clear h
  have HG := Lib.hid hG; clear hG
  go_enter Tryz.func4, Tryz.ntmps4
  go_upto_region 2 with (fail)
  obtain ⟨w2, hw2⟩ : ∃ W, W = (w.alloc (.cells #[.string ⟨#[97, 110, 110]⟩, .string ⟨#[85, 83, 68]⟩, .int .i64 5, .string ⟨#[98, 111, 98]⟩, .string ⟨#[85, 83, 68]⟩, .int .i64 (-5)] 36)).alloc (.cells #[.int .u64 7, .int .u64 1, .string ⟨#[82]⟩, .slice (some ⟨w.heap.size, 0, none⟩) 2 2] 39) := ⟨_, rfl⟩
  have hb2 : Below w.heap.size w w2 := by rw [hw2]; exact below_alloc (below_alloc (Below.refl _ _) _) _
  have hL2 : Kd.C k36 w2 (some ⟨w.heap.size, 0, none⟩) aLegs.length aLegs := by rw [hw2]; exact Kd.C_below (legs_new w) (below_alloc (Below.refl _ _) _)
  have hE2 : w2.heap[w.heap.size + 1]? = some (.cells #[.int .u64 7, .int .u64 1, .string ⟨#[82]⟩, .slice (some ⟨w.heap.size, 0, none⟩) 2 2] 39 (0, 0)) := by rw [hw2]; simpa using heap_alloc_new (w.alloc (.cells #[.string ⟨#[97, 110, 110]⟩, .string ⟨#[85, 83, 68]⟩, .int .i64 5, .string ⟨#[98, 111, 98]⟩, .string ⟨#[85, 83, 68]⟩, .int .i64 (-5)] 36)) (.cells #[.int .u64 7, .int .u64 1, .string ⟨#[82]⟩, .slice (some ⟨w.heap.size, 0, none⟩) 2 2] 39)
  rw [← hw2]
  clear hw2
  have HP : Hid (Calls Tryz.prog 10 #[.agg #[.int .u64 7, .int .u64 1, .string ⟨#[82]⟩, .slice (some ⟨w.heap.size, 0, none⟩) 2 2]] w2 fun e w' => ∃ v0_ : Value, e = .returned (.tuple #[v0_, .int .i64 0]) ∧ Kd.R k26 26 w' w2.heap.size (fun _ => True) v0_ [aP0, aP1, aP2] ∧ Below w2.heap.size w2 w') :=
    Lib.hid (journal_Pairs.calls 20 7 1 ⟨#[82]⟩ (some ⟨w.heap.size, 0, none⟩) 2 aLegs _ 0 w2 (HG.out.below hb2) hL2 (by decide) a_pairs)
  have cw0 : w2.cell? ⟨w.heap.size + 1, 0, none⟩ = some (.int .u64 7) := (blk_cell hE2 0).trans rfl
  have cw1 : w2.cell? ⟨w.heap.size + 1, 1, none⟩ = some (.int .u64 1) := (blk_cell hE2 1).trans rfl
  have cw2 : w2.cell? ⟨w.heap.size + 1, 2, none⟩ = some (.string ⟨#[82]⟩) := (blk_cell hE2 2).trans rfl
  have cw3 : w2.cell? ⟨w.heap.size + 1, 3, none⟩ = some (.slice (some ⟨w.heap.size, 0, none⟩) 2 2) := (blk_cell hE2 3).trans rfl
  have HB2 := Lib.hid hb2; have HL2 := Lib.hid hL2; have HE2 := Lib.hid hE2
  clear hb2 hL2 hE2
  go_upto_region 3 with (go_at_call 10; refine (HP.out).mono ?_; rintro e w3 ⟨v0, rfl, hR, hb⟩; have HR3 := Lib.hid hR; have HB3 := Lib.hid hb; clear hR hb)
  clear HP cw0 cw1 cw2 cw3
  obtain ⟨A1, c1, hv, hc1, hC1⟩ := Kd.R_reads HR3.out
  obtain ⟨ad, hA, _, _⟩ := at_T26 hC1 0 (by omega) (by decide)
  subst hA
  subst hv
  have hc1' : 3 ≤ c1 := hc1
  clear hc1 hC1
  have HRD : Hid (Calls Tryz.prog 5 #[.slice (some ad) 3 c1] w3 fun e w' => ∃ v0_ : Value, e = .returned (.tuple #[v0_, .int .i64 0]) ∧ Kd.R k39 39 w' w3.heap.size (fun _ => True) v0_ [aEnt] ∧ Below w3.heap.size w3 w') :=
    Lib.hid (journal_Read.calls 20 (some ad) c1 [aP0, aP1, aP2] [aEnt] 0 w3 (HG.out.below (below_step HB2.out HB3.out)) (Kd.R_reads' HR3.out).2.2 hc1' a_read)
  show Code.wp _ _ _ _ _
  go_upto_region 4 with (go_at_call 5; refine (HRD.out).mono ?_; rintro e w4 ⟨v1, rfl, hS, hb⟩; have HS4 := Lib.hid hS; have HB4 := Lib.hid hb; clear hS hb)
  clear HRD
  obtain ⟨A2, c2, hv, hc2, hC2⟩ := Kd.R_reads HS4.out
  obtain ⟨ae, A3, c3, hA, _, q1, _⟩ := at_T39 hC2 0 (by omega) (by decide)
  subst hA
  subst hv
  have HQ1 := Lib.hid q1; clear q1
  have HSM : Hid (Calls Tryz.prog 8 #[.slice (some ae) 1 c2, .string ⟨#[97, 110, 110]⟩, .string ⟨#[85, 83, 68]⟩, .int .u64 1, .int .u64 2] w4 fun e w' => e = .returned (.tuple #[.int .i64 5, .int .i64 0]) ∧ Below w4.heap.size w4 w') :=
    Lib.hid (journal_Sum.calls (some ae) c2 [aEnt] ⟨#[97, 110, 110]⟩ ⟨#[85, 83, 68]⟩ 1 2 5 0 w4 (HG.out.below (below_step (below_step HB2.out HB3.out) HB4.out)) hC2 hc2 a_sum)
  clear hC2 hc2
  go_upto_region 7 with (go_at_call 8; refine (HSM.out).mono ?_; rintro e w5 ⟨rfl, hb⟩; have HB5 := Lib.hid hb; clear hb)
  clear HSM
  have HR5 := Lib.hid (Kd.R_below (Kd.R_below HR3.out HB4.out) HB5.out)
  have HV1 : Hid (Kd.C k26 w5 (some ad) [aP0].length [aP0]) := Lib.hid (Kd.C_take (m := 1) (Kd.R_reads' HR5.out).2.2 (by decide))
  have HRD : Hid (Calls Tryz.prog 5 #[.slice (some ad) 1 c1] w5 fun e w' => ∃ v0_ : Value, e = .returned (.tuple #[v0_, .int .i64 121]) ∧ Kd.R k39 39 w' w5.heap.size (fun _ => True) v0_ [] ∧ Below w5.heap.size w5 w') :=
    Lib.hid (journal_Read.calls 20 (some ad) c1 [aP0] [] 121 w5 (HG.out.below (below_step (below_step (below_step HB2.out HB3.out) HB4.out) HB5.out)) HV1.out (by have := hc1'; show 1 ≤ c1; omega) a_read1)
  have hc1a : (1 : Int) ≤ (c1 : Int) := by omega
  go_upto_region 8 with (go_at_call 5; refine (HRD.out).mono ?_; rintro e w6 ⟨v2, rfl, hS, hb⟩; have HB6 := Lib.hid hb; clear hS hb)
  clear HRD HV1
  have HBA := Lib.hid (below_step (below_step (below_step (below_step HB2.out HB3.out) HB4.out) HB5.out) HB6.out)
  have HB26 : Hid (Below w2.heap.size w2 w6) := Lib.hid (below_step (below_step (below_step HB3.out HB4.out) HB5.out) HB6.out)
  have hE6 := blk_below HE2.out HB26.out
  have cw0 : w6.cell? ⟨w.heap.size + 1, 0, none⟩ = some (.int .u64 7) := (blk_cell hE6 0).trans rfl
  have cw1 : w6.cell? ⟨w.heap.size + 1, 1, none⟩ = some (.int .u64 1) := (blk_cell hE6 1).trans rfl
  have cw2 : w6.cell? ⟨w.heap.size + 1, 2, none⟩ = some (.string ⟨#[82]⟩) := (blk_cell hE6 2).trans rfl
  have cw3 : w6.cell? ⟨w.heap.size + 1, 3, none⟩ = some (.slice (some ⟨w.heap.size, 0, none⟩) 2 2) := (blk_cell hE6 3).trans rfl
  clear hE6
  have HCK : Hid (Calls Tryz.prog 11 #[.agg #[.int .u64 7, .int .u64 1, .string ⟨#[82]⟩, .slice (some ⟨w.heap.size, 0, none⟩) 2 2]] w6 fun e w' => e = .returned (.int .i64 0) ∧ Below w6.heap.size w6 w') :=
    Lib.hid (journal_Check.calls 7 1 ⟨#[82]⟩ (some ⟨w.heap.size, 0, none⟩) 2 aLegs 0 w6 (HG.out.below HBA.out) (Kd.C_below HL2.out HB26.out) (by decide) a_check)
  have HC0 : Hid (∀ W, Glob W → Calls Tryz.prog 11 #[.agg #[.int .u64 0, .int .u64 0, .string ⟨#[]⟩, .slice none 0 0]] W fun e w' => e = .returned (.int .i64 120) ∧ Below W.heap.size W w') :=
    Lib.hid (fun W hW => journal_Check.calls 0 0 ⟨#[]⟩ none 0 [] 120 W hW (Kd.C_nil _ _) (by decide) a_check0)
  have hR6 := (Kd.R_reads' (Kd.R_below HR5.out HB6.out)).2.2
  obtain ⟨ad', hA, p0, p1⟩ := at_T26 hR6 0 (by omega) (by decide)
  obtain rfl : ad = ad' := Option.some.inj hA
  obtain ⟨ad', hA', p2, p3⟩ := at_T26 hR6 1 (by omega) (by decide)
  obtain rfl : ad = ad' := Option.some.inj hA'
  clear hA hA' hR6
  have q1 := (HB6.out.cell (World.block_lt_of_cell? _ _ (HB5.out.cell (World.block_lt_of_cell? _ _ HQ1.out) |>.trans HQ1.out))).trans ((HB5.out.cell (World.block_lt_of_cell? _ _ HQ1.out)).trans HQ1.out)
  obtain ⟨s0, hs0⟩ : ∃ s, (rd_T26 [aP0, aP1, aP2] 0).f0 = s := ⟨_, rfl⟩
  obtain ⟨s1, hs1⟩ : ∃ s, (rd_T26 [aP0, aP1, aP2] 0).f1 = s := ⟨_, rfl⟩
  obtain ⟨s2, hs2⟩ : ∃ s, (rd_T26 [aP0, aP1, aP2] 1).f0 = s := ⟨_, rfl⟩
  obtain ⟨s3, hs3⟩ : ∃ s, (rd_T26 [aP0, aP1, aP2] 1).f1 = s := ⟨_, rfl⟩
  rw [hs0] at p0; rw [hs1] at p1; rw [hs2] at p2; rw [hs3] at p3
  have t0 : (s0.toList == ([101, 124, 48, 48, 48, 48, 48, 48, 48, 48, 48, 48, 48, 48, 48, 48, 48, 55, 124, 48] : List UInt8)) = true := by rw [← hs0]; decide +kernel
  have t1 : (s1.toList == ([48, 48, 48, 48, 48, 48, 48, 48, 48, 48, 48, 48, 48, 48, 48, 49, 124, 82, 124, 50] : List UInt8)) = true := by rw [← hs1]; decide +kernel
  have t2 : (s2.toList == ([101, 124, 48, 48, 48, 48, 48, 48, 48, 48, 48, 48, 48, 48, 48, 48, 48, 55, 124, 49, 48, 48, 48, 48] : List UInt8)) = true := by rw [← hs2]; decide +kernel
  have t3 : (s3.toList == ([97, 110, 110, 124, 85, 83, 68, 124, 53] : List UInt8)) = true := by rw [← hs3]; decide +kernel
  clear hs0 hs1 hs2 hs3
  have add0 : ∀ a : Addr, a.add 0 = a := fun a => by unfold Addr.add; simp
  replace p2 : w6.cell? (ad.add 2) = some (.string s2) := p2
  replace p3 : w6.cell? ⟨(ad.add 2).block, (ad.add 2).off + 1, none⟩ = some (.string s3) := p3
  replace p0 : w6.cell? (ad.add 0) = some (.string s0) := p0
  replace p1 : w6.cell? ⟨(ad.add 0).block, (ad.add 0).off + 1, none⟩ = some (.string s1) := p1
  replace q1 : w6.cell? ⟨(ae.add 0).block, (ae.add 0).off + 1, none⟩ = some (.int .u64 1) := q1
  have p0a := p0; have p1a := p1; have q1a := q1
  rw [add0] at p0a p1a q1a
  clear add0
  have add2 : ad.add 2 = ⟨ad.block, ad.off + 2, none⟩ := by
    obtain ⟨b, o, e⟩ := spot_none p0a
    rw [e]
    unfold Addr.add
    simp
  have p2a := p2; have p3a := p3
  rw [add2] at p2a p3a
  clear add2
  have p3b : w6.cell? ⟨ad.block, ad.off + 3, none⟩ = some (.string s3) := p3a
  go_wp2_with (first | (go_at_call 11; (with_reducible refine (HCK.out).mono ?_); rintro e w7 ⟨rfl, hb⟩; have HB7 := Lib.hid hb; clear hb cw0 cw1 cw2 cw3 p0 p1 p2 p3 q1 p0a p1a q1a p2a p3a p3b) | (go_at_call 11; (with_reducible refine (HC0.out _ (HG.out.below (below_step HBA.out HB7.out))).mono ?_); rintro e w8 ⟨rfl, hb⟩; have HB8 := Lib.hid hb; clear hb))
  go_ret
  exact ⟨rfl, below_step (below_step HBA.out HB7.out) HB8.out⟩
end Go.Proofs.YtjlifcbddednaaaGreatDoor.E
