-- Laid by wip/tools/cprint.py of this claim's own repo (over the kit's print).
import Derived.Test.YtjlifcbddednaaaGreatDoorSq
import Derived.Test.YtjlifcbddednaaaGreatDoorPx0
import Derived.Test.YtjlifcbddednaaaGreatDoorPx2
namespace Go.Proofs.YtjlifcbddednaaaGreatDoor.P
open Go.RowKit Go.Proofs.YtjlifcbddednaaaGreatDoor.E Go.Proofs.YtjlifcbddednaaaGreatDoorW.PrintWords Go.Proofs.YtjlifcbddednaaaGreatDoorW.PrintLast
set_option linter.unusedVariables false
set_option linter.unusedSimpArgs false

attribute [local go_sem high] eqA36
/-! ### cambistref12_Same: function 17 -/
mutual
def cambistref12_Same.j0 : Nat → Bool → Int → Int → ByteArray → List (S36) → Int → Int → ByteArray → List (S36) → Option (Bool)
 | 0, _, _, _, _, _, _, _, _, _ => none
 | k + 1, x33, x204000, x204001, x204002, x204003, x205000, x205001, x205002, x205003 => if x33 = true then (some false) else (cambistref12_Same.l0 k 0 x204000 x204001 x204002 x204003 x205000 x205001 x205002 x205003)
def cambistref12_Same.l0 : Nat → Int → Int → Int → ByteArray → List (S36) → Int → Int → ByteArray → List (S36) → Option (Bool)
 | 0, _, _, _, _, _, _, _, _, _ => none
 | k + 1, x5, x204000, x204001, x204002, x204003, x205000, x205001, x205002, x205003 => if x5 < (x204003.length : Int) then (if 0 ≤ x5 then (if x5 < (x205003.length : Int) then (if (!((((rd_T36 x204003 x5).f0).toList) == (((rd_T36 x205003 x5).f0).toList)) || (!((((rd_T36 x204003 x5).f1).toList) == (((rd_T36 x205003 x5).f1).toList)) || (!(((rd_T36 x204003 x5).f2) == ((rd_T36 x205003 x5).f2))))) = true then (some false) else (cambistref12_Same.l0 k (wrap64 (x5 + 1)) x204000 x204001 x204002 x204003 x205000 x205001 x205002 x205003)) else (none)) else (none)) else (some true)
end
def cambistref12_Same.f (k : Nat) (a0_0 : Int) (a0_1 : Int) (a0_2 : ByteArray) (l0_3 : List (S36)) (a1_0 : Int) (a1_1 : Int) (a1_2 : ByteArray) (l1_3 : List (S36)) : Option (Bool) := if a0_0 = a1_0 then (if a0_1 = a1_1 then (if a0_2.toList = a1_2.toList then (cambistref12_Same.j0 k ((l0_3.length : Int) != (l1_3.length : Int)) a0_0 a0_1 a0_2 l0_3 a1_0 a1_1 a1_2 l1_3) else (cambistref12_Same.j0 k true a0_0 a0_1 a0_2 l0_3 a1_0 a1_1 a1_2 l1_3)) else (cambistref12_Same.j0 k true a0_0 a0_1 a0_2 l0_3 a1_0 a1_1 a1_2 l1_3)) else (cambistref12_Same.j0 k true a0_0 a0_1 a0_2 l0_3 a1_0 a1_1 a1_2 l1_3)
theorem cambistref12_Same.mono_l : ∀ k, (∀ y0 y1 y2 y3 y4 y5 y6 y7 y8, LeO (cambistref12_Same.j0 k y0 y1 y2 y3 y4 y5 y6 y7 y8) (cambistref12_Same.j0 (k + 1) y0 y1 y2 y3 y4 y5 y6 y7 y8)) ∧ (∀ y0 y1 y2 y3 y4 y5 y6 y7 y8, LeO (cambistref12_Same.l0 k y0 y1 y2 y3 y4 y5 y6 y7 y8) (cambistref12_Same.l0 (k + 1) y0 y1 y2 y3 y4 y5 y6 y7 y8))
 | 0 => ⟨fun _ _ _ _ _ _ _ _ _ r h => by simp [cambistref12_Same.j0] at h, fun _ _ _ _ _ _ _ _ _ r h => by simp [cambistref12_Same.l0] at h⟩
 | k + 1 => by
  obtain ⟨ih0, ih1⟩ := cambistref12_Same.mono_l k
  refine ⟨?_, ?_⟩
  ·intro y0 y1 y2 y3 y4 y5 y6 y7 y8
   unfold cambistref12_Same.j0
   repeat' first
   | (with_reducible exact ih0 _ _ _ _ _ _ _ _ _)
   | (with_reducible exact ih1 _ _ _ _ _ _ _ _ _)
   | (with_reducible first | exact LeO.refl _ | exact LeO.none _ | refine LeO.ite ?_ ?_ | refine LeO.bind ?_ fun _ => ?_)
   | exact ih0 _ _ _ _ _ _ _ _ _
   | exact ih1 _ _ _ _ _ _ _ _ _
  ·intro y0 y1 y2 y3 y4 y5 y6 y7 y8
   unfold cambistref12_Same.l0
   repeat' first
   | (with_reducible exact ih0 _ _ _ _ _ _ _ _ _)
   | (with_reducible exact ih1 _ _ _ _ _ _ _ _ _)
   | (with_reducible first | exact LeO.refl _ | exact LeO.none _ | refine LeO.ite ?_ ?_ | refine LeO.bind ?_ fun _ => ?_)
   | exact ih0 _ _ _ _ _ _ _ _ _
   | exact ih1 _ _ _ _ _ _ _ _ _
theorem cambistref12_Same.mono : ∀ a0 a1 a2 a3 a4 a5 a6 a7 k, LeO (cambistref12_Same.f k a0 a1 a2 a3 a4 a5 a6 a7) (cambistref12_Same.f (k + 1) a0 a1 a2 a3 a4 a5 a6 a7) := by
 intro a0 a1 a2 a3 a4 a5 a6 a7 k
 obtain ⟨ih0, ih1⟩ := cambistref12_Same.mono_l k
 unfold cambistref12_Same.f
 repeat' first
   | (with_reducible exact ih0 _ _ _ _ _ _ _ _ _)
   | (with_reducible exact ih1 _ _ _ _ _ _ _ _ _)
   | (with_reducible first | exact LeO.refl _ | exact LeO.none _ | refine LeO.ite ?_ ?_ | refine LeO.bind ?_ fun _ => ?_)
   | exact ih0 _ _ _ _ _ _ _ _ _
   | exact ih1 _ _ _ _ _ _ _ _ _
set_option maxHeartbeats 8000000 in
set_option maxRecDepth 100000 in
theorem cambistref12_Same.calls (k : Nat) (a0_0 : Int) (a0_1 : Int) (a0_2 : ByteArray) (A0_3 : Option Addr) (c0_3 : Nat) (l0_3 : List (S36)) (a1_0 : Int) (a1_1 : Int) (a1_2 : ByteArray) (A1_3 : Option Addr) (c1_3 : Nat) (l1_3 : List (S36)) (r : Bool) (w : World) (hG : Glob w) (hr0_3 : Kd.C k36 w A0_3 l0_3.length l0_3) (hc0_3 : l0_3.length ≤ c0_3) (hr1_3 : Kd.C k36 w A1_3 l1_3.length l1_3) (hc1_3 : l1_3.length ≤ c1_3) (h : cambistref12_Same.f k a0_0 a0_1 a0_2 l0_3 a1_0 a1_1 a1_2 l1_3 = some r) :
  Calls Tryz.prog 17 #[.agg #[.int .u64 a0_0, .int .u64 a0_1, .string a0_2, .slice A0_3 l0_3.length c0_3], .agg #[.int .u64 a1_0, .int .u64 a1_1, .string a1_2, .slice A1_3 l1_3.length c1_3]] w fun e w' => e = .returned (.bool r) ∧ Below w.heap.size w w' := by
 have hu39 := Tryz.underlying39
 have hu36 := Tryz.underlying36
 have HG := a_ hG
 clear hG
 have HR0_3 := a_ hr0_3
 have HC0_3 := a_ hc0_3
 clear hr0_3 hc0_3
 have HR1_3 := a_ hr1_3
 have HC1_3 := a_ hc1_3
 clear hr1_3 hc1_3
 have HB := a_ (Below.refl w.heap.size w)
 have H : (if a0_0 = a1_0 then (if a0_1 = a1_1 then (if a0_2.toList = a1_2.toList then (cambistref12_Same.j0 k ((l0_3.length : Int) != (l1_3.length : Int)) a0_0 a0_1 a0_2 l0_3 a1_0 a1_1 a1_2 l1_3) else (cambistref12_Same.j0 k true a0_0 a0_1 a0_2 l0_3 a1_0 a1_1 a1_2 l1_3)) else (cambistref12_Same.j0 k true a0_0 a0_1 a0_2 l0_3 a1_0 a1_1 a1_2 l1_3)) else (cambistref12_Same.j0 k true a0_0 a0_1 a0_2 l0_3 a1_0 a1_1 a1_2 l1_3)) = some r := h
 clear h
 have HC3 := a_ H
 clear H
 go_enter Tryz.func17, Tryz.ntmps17
 go_upto_region 1 with (first | ((with_reducible refine gate_dst (N := 2) rfl ?_); (try (refine gate_guard (by rfl) ?_; dsimp only)); refine box_event ?hg (N := 2) ?hd (cs := #[.int .u64 a0_0, .int .u64 a0_1, .string a0_2, .slice A0_3 l0_3.length c0_3]) (t := 39) ?hr ?_; (case hd => rfl); (case hg => rfl); (case hr => first | (go_simp; done) | (go_simp; rfl)); intro gb203 hg w4 hbox hb; have n0_ := a_ (below_step z33_ hb); have n1_ := a_ (hbox); have n2_ := a_ ((z20_ : w.heap.size ≤ gb203)); have n3_ := a_ ((z20_ : w.heap.size ≤ gb203)); clear HB; have HB := n0_; have BK203 := n1_; have GW203 := n2_; have GE203 := n3_; clear n0_ n1_ n2_ n3_; clear hb hbox hg) | ((with_reducible refine gate_dst (N := 3) rfl ?_); (try (refine gate_guard (by rfl) ?_; dsimp only)); refine box_event ?hg (N := 3) ?hd (cs := #[.int .u64 a1_0, .int .u64 a1_1, .string a1_2, .slice A1_3 l1_3.length c1_3]) (t := 39) ?hr ?_; (case hd => rfl); (case hg => rfl); (case hr => first | (go_simp; done) | (go_simp; rfl)); intro gb204 hg w5 hbox hb; have n0_ := a_ (blk_below (g := gb203) (o := .cells #[.int .u64 a0_0, .int .u64 a0_1, .string a0_2, .slice A0_3 l0_3.length c0_3] 39 (0, 0)) z55_ hb); have n1_ := a_ (below_step z25_ hb); have n2_ := a_ (hbox); have n3_ := a_ ((z9_ : w.heap.size ≤ gb204)); have n4_ := a_ ((z9_ : w.heap.size ≤ gb204)); have n5_ := a_ ((by rw [hg]; exact Nat.ne_of_lt (blk_lt (g := gb203) (o := .cells #[.int .u64 a0_0, .int .u64 a0_1, .string a0_2, .slice A0_3 l0_3.length c0_3] 39 (0, 0)) z55_) : gb203 ≠ gb204)); have n6_ := a_ ((by rw [hg]; exact Nat.ne_of_gt (blk_lt (g := gb203) (o := .cells #[.int .u64 a0_0, .int .u64 a0_1, .string a0_2, .slice A0_3 l0_3.length c0_3] 39 (0, 0)) z55_) : gb204 ≠ gb203)); clear BK203; clear HB; have BK203 := n0_; have HB := n1_; have BK204 := n2_; have GW204 := n3_; have GE204 := n4_; have NB203_204 := n5_; have NB204_203 := n6_; clear n0_ n1_ n2_ n3_ n4_ n5_ n6_; clear hb hbox hg))
 repeat (go_quiet (first | ((with_reducible refine gate_dst (N := 2) rfl ?_); (try (refine gate_guard (by rfl) ?_; dsimp only)); refine box_event ?hg (N := 2) ?hd (cs := #[.int .u64 a0_0, .int .u64 a0_1, .string a0_2, .slice A0_3 l0_3.length c0_3]) (t := 39) ?hr ?_; (case hd => rfl); (case hg => rfl); (case hr => first | (go_simp; done) | (go_simp; rfl)); intro gb203 hg w4 hbox hb; have n0_ := a_ (below_step z33_ hb); have n1_ := a_ (hbox); have n2_ := a_ ((z20_ : w.heap.size ≤ gb203)); have n3_ := a_ ((z20_ : w.heap.size ≤ gb203)); clear HB; have HB := n0_; have BK203 := n1_; have GW203 := n2_; have GE203 := n3_; clear n0_ n1_ n2_ n3_; clear hb hbox hg) | ((with_reducible refine gate_dst (N := 3) rfl ?_); (try (refine gate_guard (by rfl) ?_; dsimp only)); refine box_event ?hg (N := 3) ?hd (cs := #[.int .u64 a1_0, .int .u64 a1_1, .string a1_2, .slice A1_3 l1_3.length c1_3]) (t := 39) ?hr ?_; (case hd => rfl); (case hg => rfl); (case hr => first | (go_simp; done) | (go_simp; rfl)); intro gb204 hg w5 hbox hb; have n0_ := a_ (blk_below (g := gb203) (o := .cells #[.int .u64 a0_0, .int .u64 a0_1, .string a0_2, .slice A0_3 l0_3.length c0_3] 39 (0, 0)) z55_ hb); have n1_ := a_ (below_step z25_ hb); have n2_ := a_ (hbox); have n3_ := a_ ((z9_ : w.heap.size ≤ gb204)); have n4_ := a_ ((z9_ : w.heap.size ≤ gb204)); have n5_ := a_ ((by rw [hg]; exact Nat.ne_of_lt (blk_lt (g := gb203) (o := .cells #[.int .u64 a0_0, .int .u64 a0_1, .string a0_2, .slice A0_3 l0_3.length c0_3] 39 (0, 0)) z55_) : gb203 ≠ gb204)); have n6_ := a_ ((by rw [hg]; exact Nat.ne_of_gt (blk_lt (g := gb203) (o := .cells #[.int .u64 a0_0, .int .u64 a0_1, .string a0_2, .slice A0_3 l0_3.length c0_3] 39 (0, 0)) z55_) : gb204 ≠ gb203)); clear BK203; clear HB; have BK203 := n0_; have HB := n1_; have BK204 := n2_; have GW204 := n3_; have GE204 := n4_; have NB203_204 := n5_; have NB204_203 := n6_; clear n0_ n1_ n2_ n3_ n4_ n5_ n6_; clear hb hbox hg)); go_upto_region 1 with (first | ((with_reducible refine gate_dst (N := 2) rfl ?_); (try (refine gate_guard (by rfl) ?_; dsimp only)); refine box_event ?hg (N := 2) ?hd (cs := #[.int .u64 a0_0, .int .u64 a0_1, .string a0_2, .slice A0_3 l0_3.length c0_3]) (t := 39) ?hr ?_; (case hd => rfl); (case hg => rfl); (case hr => first | (go_simp; done) | (go_simp; rfl)); intro gb203 hg w4 hbox hb; have n0_ := a_ (below_step z33_ hb); have n1_ := a_ (hbox); have n2_ := a_ ((z20_ : w.heap.size ≤ gb203)); have n3_ := a_ ((z20_ : w.heap.size ≤ gb203)); clear HB; have HB := n0_; have BK203 := n1_; have GW203 := n2_; have GE203 := n3_; clear n0_ n1_ n2_ n3_; clear hb hbox hg) | ((with_reducible refine gate_dst (N := 3) rfl ?_); (try (refine gate_guard (by rfl) ?_; dsimp only)); refine box_event ?hg (N := 3) ?hd (cs := #[.int .u64 a1_0, .int .u64 a1_1, .string a1_2, .slice A1_3 l1_3.length c1_3]) (t := 39) ?hr ?_; (case hd => rfl); (case hg => rfl); (case hr => first | (go_simp; done) | (go_simp; rfl)); intro gb204 hg w5 hbox hb; have n0_ := a_ (blk_below (g := gb203) (o := .cells #[.int .u64 a0_0, .int .u64 a0_1, .string a0_2, .slice A0_3 l0_3.length c0_3] 39 (0, 0)) z55_ hb); have n1_ := a_ (below_step z25_ hb); have n2_ := a_ (hbox); have n3_ := a_ ((z9_ : w.heap.size ≤ gb204)); have n4_ := a_ ((z9_ : w.heap.size ≤ gb204)); have n5_ := a_ ((by rw [hg]; exact Nat.ne_of_lt (blk_lt (g := gb203) (o := .cells #[.int .u64 a0_0, .int .u64 a0_1, .string a0_2, .slice A0_3 l0_3.length c0_3] 39 (0, 0)) z55_) : gb203 ≠ gb204)); have n6_ := a_ ((by rw [hg]; exact Nat.ne_of_gt (blk_lt (g := gb203) (o := .cells #[.int .u64 a0_0, .int .u64 a0_1, .string a0_2, .slice A0_3 l0_3.length c0_3] 39 (0, 0)) z55_) : gb204 ≠ gb203)); clear BK203; clear HB; have BK203 := n0_; have HB := n1_; have BK204 := n2_; have GW204 := n3_; have GE204 := n4_; have NB203_204 := n5_; have NB204_203 := n6_; clear n0_ n1_ n2_ n3_ n4_ n5_ n6_; clear hb hbox hg)))
 (try simp only [Act.put, sT_, s0_, sS_])
 go_cut [33] (fun v33 wc => ∃ (kq : Nat) (x33_2 : Bool), v33 = .bool x33_2 ∧ Aside0 (cambistref12_Same.j0 kq x33_2 a0_0 a0_1 a0_2 l0_3 a1_0 a1_1 a1_2 l1_3 = some r) ∧ Aside0 (kq ≤ k) ∧ Aside0 (wc.heap[gb203]? = some (.cells #[.int .u64 a0_0, .int .u64 a0_1, .string a0_2, (.slice A0_3 l0_3.length c0_3)] 39 (0, 0))) ∧ Aside0 (wc.heap[gb204]? = some (.cells #[.int .u64 a1_0, .int .u64 a1_1, .string a1_2, (.slice A1_3 l1_3.length c1_3)] 39 (0, 0))) ∧ Aside0 (Below w.heap.size w wc))
 case first =>
  have H := HC3.out
  clear HC3
  by_cases c6 : a0_0 = a1_0
  ·rw [if_pos c6] at H
   have c6b0 : (a0_0 == a1_0) = true := beq_iff_eq.mpr c6
   have c6b1 : (a0_0 != a1_0) = false := bne_eq_false_iff_eq.mpr c6
   clear c6
   (first | rw [c6b0] | (simp only [i64_w, i32_w]; rw [c6b0]) | skip)
   by_cases c7 : a0_1 = a1_1
   ·rw [if_pos c7] at H
    have c7b0 : (a0_1 == a1_1) = true := beq_iff_eq.mpr c7
    have c7b1 : (a0_1 != a1_1) = false := bne_eq_false_iff_eq.mpr c7
    clear c7
    by_cases c8 : a0_2.toList = a1_2.toList
    ·rw [if_pos c8] at H
     have c8b0 : (a0_2.toList == a1_2.toList) = true := beq_iff_eq.mpr c8
     have c8b1 : (a0_2.toList != a1_2.toList) = false := bne_eq_false_iff_eq.mpr c8
     clear c8
     have H' := a_ H
     clear H
     have hnb9 := NB203_204.out
     have hnc9 := NB204_203.out
     have hcz10_0 : w5.cell? ⟨gb203, 0, none⟩ = some (.int .u64 a0_0) := (blk_cell BK203.out 0).trans rfl
     have hcz10_1 : w5.cell? ⟨gb203, 1, none⟩ = some (.int .u64 a0_1) := (blk_cell BK203.out 1).trans rfl
     have hcz10_2 : w5.cell? ⟨gb203, 2, none⟩ = some (.string a0_2) := (blk_cell BK203.out 2).trans rfl
     have hcz10_3 : w5.cell? ⟨gb203, 3, none⟩ = some (.slice A0_3 l0_3.length c0_3) := (blk_cell BK203.out 3).trans rfl
     have hfz10_0 := blk_frozen BK203.out 0
     have hfz10_1 := blk_frozen BK203.out 1
     have hfz10_2 := blk_frozen BK203.out 2
     have hfz10_3 := blk_frozen BK203.out 3
     have hcz11_0 : w5.cell? ⟨gb204, 0, none⟩ = some (.int .u64 a1_0) := (blk_cell BK204.out 0).trans rfl
     have hcz11_1 : w5.cell? ⟨gb204, 1, none⟩ = some (.int .u64 a1_1) := (blk_cell BK204.out 1).trans rfl
     have hcz11_2 : w5.cell? ⟨gb204, 2, none⟩ = some (.string a1_2) := (blk_cell BK204.out 2).trans rfl
     have hcz11_3 : w5.cell? ⟨gb204, 3, none⟩ = some (.slice A1_3 l1_3.length c1_3) := (blk_cell BK204.out 3).trans rfl
     have hfz11_0 := blk_frozen BK204.out 0
     have hfz11_1 := blk_frozen BK204.out 1
     have hfz11_2 := blk_frozen BK204.out 2
     have hfz11_3 := blk_frozen BK204.out 3
     go_wp2
     repeat (go_quiet (fail); try go_wp2)
     go_meet
     case rel => exact ⟨_, (((l0_3.length : Int) != (l1_3.length : Int))), z71_, H', ⟨z72_⟩, ⟨z55_⟩, ⟨z56_⟩, ⟨z13_⟩⟩
    ·rw [if_neg c8] at H
     have c8b0 : (a0_2.toList == a1_2.toList) = false := beq_eq_false_iff_ne.mpr c8
     have c8b1 : (a0_2.toList != a1_2.toList) = true := bne_iff_ne.mpr c8
     have H' := a_ H
     clear H
     have hnb12 := NB203_204.out
     have hnc12 := NB204_203.out
     have hcz13_0 : w5.cell? ⟨gb203, 0, none⟩ = some (.int .u64 a0_0) := (blk_cell BK203.out 0).trans rfl
     have hcz13_1 : w5.cell? ⟨gb203, 1, none⟩ = some (.int .u64 a0_1) := (blk_cell BK203.out 1).trans rfl
     have hcz13_2 : w5.cell? ⟨gb203, 2, none⟩ = some (.string a0_2) := (blk_cell BK203.out 2).trans rfl
     have hcz13_3 : w5.cell? ⟨gb203, 3, none⟩ = some (.slice A0_3 l0_3.length c0_3) := (blk_cell BK203.out 3).trans rfl
     have hfz13_0 := blk_frozen BK203.out 0
     have hfz13_1 := blk_frozen BK203.out 1
     have hfz13_2 := blk_frozen BK203.out 2
     have hfz13_3 := blk_frozen BK203.out 3
     have hcz14_0 : w5.cell? ⟨gb204, 0, none⟩ = some (.int .u64 a1_0) := (blk_cell BK204.out 0).trans rfl
     have hcz14_1 : w5.cell? ⟨gb204, 1, none⟩ = some (.int .u64 a1_1) := (blk_cell BK204.out 1).trans rfl
     have hcz14_2 : w5.cell? ⟨gb204, 2, none⟩ = some (.string a1_2) := (blk_cell BK204.out 2).trans rfl
     have hcz14_3 : w5.cell? ⟨gb204, 3, none⟩ = some (.slice A1_3 l1_3.length c1_3) := (blk_cell BK204.out 3).trans rfl
     have hfz14_0 := blk_frozen BK204.out 0
     have hfz14_1 := blk_frozen BK204.out 1
     have hfz14_2 := blk_frozen BK204.out 2
     have hfz14_3 := blk_frozen BK204.out 3
     go_wp2
     repeat (go_quiet (fail); try go_wp2)
     go_meet
     case rel => exact ⟨_, (true), z71_, H', ⟨z72_⟩, ⟨z55_⟩, ⟨z56_⟩, ⟨z13_⟩⟩
   ·rw [if_neg c7] at H
    have c7b0 : (a0_1 == a1_1) = false := beq_eq_false_iff_ne.mpr c7
    have c7b1 : (a0_1 != a1_1) = true := bne_iff_ne.mpr c7
    have H' := a_ H
    clear H
    have hnb15 := NB203_204.out
    have hnc15 := NB204_203.out
    have hcz16_0 : w5.cell? ⟨gb203, 0, none⟩ = some (.int .u64 a0_0) := (blk_cell BK203.out 0).trans rfl
    have hcz16_1 : w5.cell? ⟨gb203, 1, none⟩ = some (.int .u64 a0_1) := (blk_cell BK203.out 1).trans rfl
    have hcz16_2 : w5.cell? ⟨gb203, 2, none⟩ = some (.string a0_2) := (blk_cell BK203.out 2).trans rfl
    have hcz16_3 : w5.cell? ⟨gb203, 3, none⟩ = some (.slice A0_3 l0_3.length c0_3) := (blk_cell BK203.out 3).trans rfl
    have hfz16_0 := blk_frozen BK203.out 0
    have hfz16_1 := blk_frozen BK203.out 1
    have hfz16_2 := blk_frozen BK203.out 2
    have hfz16_3 := blk_frozen BK203.out 3
    have hcz17_0 : w5.cell? ⟨gb204, 0, none⟩ = some (.int .u64 a1_0) := (blk_cell BK204.out 0).trans rfl
    have hcz17_1 : w5.cell? ⟨gb204, 1, none⟩ = some (.int .u64 a1_1) := (blk_cell BK204.out 1).trans rfl
    have hcz17_2 : w5.cell? ⟨gb204, 2, none⟩ = some (.string a1_2) := (blk_cell BK204.out 2).trans rfl
    have hcz17_3 : w5.cell? ⟨gb204, 3, none⟩ = some (.slice A1_3 l1_3.length c1_3) := (blk_cell BK204.out 3).trans rfl
    have hfz17_0 := blk_frozen BK204.out 0
    have hfz17_1 := blk_frozen BK204.out 1
    have hfz17_2 := blk_frozen BK204.out 2
    have hfz17_3 := blk_frozen BK204.out 3
    go_wp2
    repeat (go_quiet (fail); try go_wp2)
    go_meet
    case rel => exact ⟨_, (true), z71_, H', ⟨z72_⟩, ⟨z55_⟩, ⟨z56_⟩, ⟨z13_⟩⟩
  ·rw [if_neg c6] at H
   have c6b0 : (a0_0 == a1_0) = false := beq_eq_false_iff_ne.mpr c6
   have c6b1 : (a0_0 != a1_0) = true := bne_iff_ne.mpr c6
   (first | rw [c6b0] | (simp only [i64_w, i32_w]; rw [c6b0]) | skip)
   have H' := a_ H
   clear H
   have hnb18 := NB203_204.out
   have hnc18 := NB204_203.out
   have hcz19_0 : w5.cell? ⟨gb203, 0, none⟩ = some (.int .u64 a0_0) := (blk_cell BK203.out 0).trans rfl
   have hcz19_1 : w5.cell? ⟨gb203, 1, none⟩ = some (.int .u64 a0_1) := (blk_cell BK203.out 1).trans rfl
   have hcz19_2 : w5.cell? ⟨gb203, 2, none⟩ = some (.string a0_2) := (blk_cell BK203.out 2).trans rfl
   have hcz19_3 : w5.cell? ⟨gb203, 3, none⟩ = some (.slice A0_3 l0_3.length c0_3) := (blk_cell BK203.out 3).trans rfl
   have hfz19_0 := blk_frozen BK203.out 0
   have hfz19_1 := blk_frozen BK203.out 1
   have hfz19_2 := blk_frozen BK203.out 2
   have hfz19_3 := blk_frozen BK203.out 3
   have hcz20_0 : w5.cell? ⟨gb204, 0, none⟩ = some (.int .u64 a1_0) := (blk_cell BK204.out 0).trans rfl
   have hcz20_1 : w5.cell? ⟨gb204, 1, none⟩ = some (.int .u64 a1_1) := (blk_cell BK204.out 1).trans rfl
   have hcz20_2 : w5.cell? ⟨gb204, 2, none⟩ = some (.string a1_2) := (blk_cell BK204.out 2).trans rfl
   have hcz20_3 : w5.cell? ⟨gb204, 3, none⟩ = some (.slice A1_3 l1_3.length c1_3) := (blk_cell BK204.out 3).trans rfl
   have hfz20_0 := blk_frozen BK204.out 0
   have hfz20_1 := blk_frozen BK204.out 1
   have hfz20_2 := blk_frozen BK204.out 2
   have hfz20_3 := blk_frozen BK204.out 3
   go_wp2
   repeat (go_quiet (fail); try go_wp2)
   go_meet
   case rel => exact ⟨_, (true), z71_, H', ⟨z72_⟩, ⟨z55_⟩, ⟨z56_⟩, ⟨z13_⟩⟩
 case rest =>
  clear HC3
  try clear c1
  try clear p2
  try clear c6
  try clear c6b0
  try clear c6b1
  try clear c7
  try clear c7b0
  try clear c7b1
  try clear c8
  try clear c8b0
  try clear c8b1
  try clear c9
  try clear c12
  try clear c15
  try clear c17
  try clear c18
  try clear hcz10_0
  try clear hcz10_1
  try clear hcz10_2
  try clear hcz10_3
  try clear hcz11_0
  try clear hcz11_1
  try clear hcz11_2
  try clear hcz11_3
  try clear hcz13_0
  try clear hcz13_1
  try clear hcz13_2
  try clear hcz13_3
  try clear hcz14_0
  try clear hcz14_1
  try clear hcz14_2
  try clear hcz14_3
  try clear hcz16_0
  try clear hcz16_1
  try clear hcz16_2
  try clear hcz16_3
  try clear hcz17_0
  try clear hcz17_1
  try clear hcz17_2
  try clear hcz17_3
  try clear hcz19_0
  try clear hcz19_1
  try clear hcz19_2
  try clear hcz19_3
  try clear hcz20_0
  try clear hcz20_1
  try clear hcz20_2
  try clear hcz20_3
  try clear hfz10_0
  try clear hfz10_1
  try clear hfz10_2
  try clear hfz10_3
  try clear hfz11_0
  try clear hfz11_1
  try clear hfz11_2
  try clear hfz11_3
  try clear hfz13_0
  try clear hfz13_1
  try clear hfz13_2
  try clear hfz13_3
  try clear hfz14_0
  try clear hfz14_1
  try clear hfz14_2
  try clear hfz14_3
  try clear hfz16_0
  try clear hfz16_1
  try clear hfz16_2
  try clear hfz16_3
  try clear hfz17_0
  try clear hfz17_1
  try clear hfz17_2
  try clear hfz17_3
  try clear hfz19_0
  try clear hfz19_1
  try clear hfz19_2
  try clear hfz19_3
  try clear hfz20_0
  try clear hfz20_1
  try clear hfz20_2
  try clear hfz20_3
  obtain ⟨kq, x33_2, rfl, HA, HJ2, BK203, BK204, HB⟩ := hcut
  cases kq with
  | zero => exact absurd HA.out (by simp [cambistref12_Same.j0])
  | succ kj2 =>
   have H := HA.out
   clear HA
   simp only [cambistref12_Same.j0] at H
   by_cases c21 : x33_2 = true
   ·subst c21
    have H1 : (some false) = some r := by rw [if_pos rfl] at H; exact H
    clear H
    have H := H1
    clear H1
    obtain rfl := Option.some.inj H
    go_wp2
    repeat (go_quiet (fail); try go_wp2)
    go_ret
    exact ⟨z64_, z13_⟩
   ·replace c21 := Bool.eq_false_iff.mpr c21
    subst c21
    have H1 : (cambistref12_Same.l0 kj2 0 a0_0 a0_1 a0_2 l0_3 a1_0 a1_1 a1_2 l1_3) = some r := by rw [if_neg (show ¬ (false = true) by decide)] at H; exact H
    clear H
    have H := H1
    clear H1
    have H' := a_ H
    clear H
    go_wp2
    repeat (go_quiet (fail); try go_wp2)
    go_loopg [5] kj2 (fun kq v5 w' => ∃ (x5_2 : Int), v5 = .int .i64 x5_2 ∧ Aside0 (cambistref12_Same.l0 kq x5_2 a0_0 a0_1 a0_2 l0_3 a1_0 a1_1 a1_2 l1_3 = some r) ∧ Aside0 (kq ≤ kj2) ∧ Aside0 (w'.heap[gb203]? = some (.cells #[.int .u64 a0_0, .int .u64 a0_1, .string a0_2, (.slice A0_3 l0_3.length c0_3)] 39 (0, 0))) ∧ Aside0 (w'.heap[gb204]? = some (.cells #[.int .u64 a1_0, .int .u64 a1_1, .string a1_2, (.slice A1_3 l1_3.length c1_3)] 39 (0, 0))) ∧ Aside0 (Below w.heap.size w w'))
    case atStart => exact ⟨(0), z71_, H', ⟨Nat.le_refl _⟩, ⟨z55_⟩, ⟨z56_⟩, ⟨z13_⟩⟩
    case round =>
     clear H'
     try clear c1
     try clear c2
     try clear p2
     try clear c6
     try clear c6b0
     try clear c6b1
     try clear c7
     try clear c7b0
     try clear c7b1
     try clear c8
     try clear c8b0
     try clear c8b1
     try clear c9
     try clear c12
     try clear c15
     try clear c17
     try clear c18
     try clear c21
     try clear hcz10_0
     try clear hcz10_1
     try clear hcz10_2
     try clear hcz10_3
     try clear hcz11_0
     try clear hcz11_1
     try clear hcz11_2
     try clear hcz11_3
     try clear hcz13_0
     try clear hcz13_1
     try clear hcz13_2
     try clear hcz13_3
     try clear hcz14_0
     try clear hcz14_1
     try clear hcz14_2
     try clear hcz14_3
     try clear hcz16_0
     try clear hcz16_1
     try clear hcz16_2
     try clear hcz16_3
     try clear hcz17_0
     try clear hcz17_1
     try clear hcz17_2
     try clear hcz17_3
     try clear hcz19_0
     try clear hcz19_1
     try clear hcz19_2
     try clear hcz19_3
     try clear hcz20_0
     try clear hcz20_1
     try clear hcz20_2
     try clear hcz20_3
     try clear hfz10_0
     try clear hfz10_1
     try clear hfz10_2
     try clear hfz10_3
     try clear hfz11_0
     try clear hfz11_1
     try clear hfz11_2
     try clear hfz11_3
     try clear hfz13_0
     try clear hfz13_1
     try clear hfz13_2
     try clear hfz13_3
     try clear hfz14_0
     try clear hfz14_1
     try clear hfz14_2
     try clear hfz14_3
     try clear hfz16_0
     try clear hfz16_1
     try clear hfz16_2
     try clear hfz16_3
     try clear hfz17_0
     try clear hfz17_1
     try clear hfz17_2
     try clear hfz17_3
     try clear hfz19_0
     try clear hfz19_1
     try clear hfz19_2
     try clear hfz19_3
     try clear hfz20_0
     try clear hfz20_1
     try clear hfz20_2
     try clear hfz20_3
     try clear p2
     obtain ⟨x5_2, rfl, HA, HK2, BK203, BK204, HB⟩ := hrel
     cases gk with
     | zero => exact absurd HA.out (by simp [cambistref12_Same.l0])
     | succ k2 =>
      have H := HA.out
      clear HA
      simp only [cambistref12_Same.l0] at H
      by_cases c22 : x5_2 < (l0_3.length : Int)
      ·rw [if_pos c22] at H
       have c22b0 : decide (x5_2 < (l0_3.length : Int)) = true := decide_eq_true c22
       clear c22
       by_cases c23 : 0 ≤ x5_2
       ·rw [if_pos c23] at H
        have c23b0 : decide (0 ≤ x5_2) = true := decide_eq_true c23
        clear c23
        by_cases c24 : x5_2 < (l1_3.length : Int)
        ·rw [if_pos c24] at H
         have c24b0 : decide (x5_2 < (l1_3.length : Int)) = true := decide_eq_true c24
         clear c24
         by_cases c25 : (!((((rd_T36 l0_3 x5_2).f0).toList) == (((rd_T36 l1_3 x5_2).f0).toList)) || (!((((rd_T36 l0_3 x5_2).f1).toList) == (((rd_T36 l1_3 x5_2).f1).toList)) || (!(((rd_T36 l0_3 x5_2).f2) == ((rd_T36 l1_3 x5_2).f2))))) = true
         ·rw [if_pos c25] at H
          have c25b0 : (!((((rd_T36 l0_3 x5_2).f0).toList) == (((rd_T36 l1_3 x5_2).f0).toList)) || (!((((rd_T36 l0_3 x5_2).f1).toList) == (((rd_T36 l1_3 x5_2).f1).toList)) || (!(((rd_T36 l0_3 x5_2).f2) == ((rd_T36 l1_3 x5_2).f2))))) = true := c25
          clear c25
          obtain rfl := Option.some.inj H
          have hnb26 := NB203_204.out
          have hnc26 := NB204_203.out
          have hcz27_0 : wr.cell? ⟨gb203, 0, none⟩ = some (.int .u64 a0_0) := (blk_cell BK203.out 0).trans rfl
          have hcz27_1 : wr.cell? ⟨gb203, 1, none⟩ = some (.int .u64 a0_1) := (blk_cell BK203.out 1).trans rfl
          have hcz27_2 : wr.cell? ⟨gb203, 2, none⟩ = some (.string a0_2) := (blk_cell BK203.out 2).trans rfl
          have hcz27_3 : wr.cell? ⟨gb203, 3, none⟩ = some (.slice A0_3 l0_3.length c0_3) := (blk_cell BK203.out 3).trans rfl
          have hfz27_0 := blk_frozen BK203.out 0
          have hfz27_1 := blk_frozen BK203.out 1
          have hfz27_2 := blk_frozen BK203.out 2
          have hfz27_3 := blk_frozen BK203.out 3
          have p205 : 0 ≤ (x5_2 : Int) := of_decide_eq_true z70_
          have q205 : x5_2 < (l0_3.length : Int) := of_decide_eq_true z70_
          obtain ⟨ad205, e205, hx205_0, hx205_1, hx205_2⟩ := at_T36 HR0_3.out x5_2 p205 q205
          cases e205
          replace hx205_0 := (HB.out.cell (World.block_lt_of_cell? w _ hx205_0)).trans hx205_0
          replace hx205_1 := (HB.out.cell (World.block_lt_of_cell? w _ hx205_1)).trans hx205_1
          replace hx205_2 := (HB.out.cell (World.block_lt_of_cell? w _ hx205_2)).trans hx205_2
          replace p205 := eq_true p205
          replace q205 := eq_true q205
          have hcz28_0 : wr.cell? ⟨gb204, 0, none⟩ = some (.int .u64 a1_0) := (blk_cell BK204.out 0).trans rfl
          have hcz28_1 : wr.cell? ⟨gb204, 1, none⟩ = some (.int .u64 a1_1) := (blk_cell BK204.out 1).trans rfl
          have hcz28_2 : wr.cell? ⟨gb204, 2, none⟩ = some (.string a1_2) := (blk_cell BK204.out 2).trans rfl
          have hcz28_3 : wr.cell? ⟨gb204, 3, none⟩ = some (.slice A1_3 l1_3.length c1_3) := (blk_cell BK204.out 3).trans rfl
          have hfz28_0 := blk_frozen BK204.out 0
          have hfz28_1 := blk_frozen BK204.out 1
          have hfz28_2 := blk_frozen BK204.out 2
          have hfz28_3 := blk_frozen BK204.out 3
          have p206 : 0 ≤ (x5_2 : Int) := of_decide_eq_true z70_
          have q206 : x5_2 < (l1_3.length : Int) := of_decide_eq_true z70_
          obtain ⟨ad206, e206, hx206_0, hx206_1, hx206_2⟩ := at_T36 HR1_3.out x5_2 p206 q206
          cases e206
          replace hx206_0 := (HB.out.cell (World.block_lt_of_cell? w _ hx206_0)).trans hx206_0
          replace hx206_1 := (HB.out.cell (World.block_lt_of_cell? w _ hx206_1)).trans hx206_1
          replace hx206_2 := (HB.out.cell (World.block_lt_of_cell? w _ hx206_2)).trans hx206_2
          replace p206 := eq_true p206
          replace q206 := eq_true q206
          go_wp2
          repeat (go_quiet (fail); try go_wp2)
          go_ret
          exact ⟨z64_, z13_⟩
         ·rw [if_neg c25] at H
          have c25b0 : (!((((rd_T36 l0_3 x5_2).f0).toList) == (((rd_T36 l1_3 x5_2).f0).toList)) || (!((((rd_T36 l0_3 x5_2).f1).toList) == (((rd_T36 l1_3 x5_2).f1).toList)) || (!(((rd_T36 l0_3 x5_2).f2) == ((rd_T36 l1_3 x5_2).f2))))) = false := by simpa using c25
          clear c25
          have H' := a_ H
          clear H
          have hnb29 := NB203_204.out
          have hnc29 := NB204_203.out
          have hcz30_0 : wr.cell? ⟨gb203, 0, none⟩ = some (.int .u64 a0_0) := (blk_cell BK203.out 0).trans rfl
          have hcz30_1 : wr.cell? ⟨gb203, 1, none⟩ = some (.int .u64 a0_1) := (blk_cell BK203.out 1).trans rfl
          have hcz30_2 : wr.cell? ⟨gb203, 2, none⟩ = some (.string a0_2) := (blk_cell BK203.out 2).trans rfl
          have hcz30_3 : wr.cell? ⟨gb203, 3, none⟩ = some (.slice A0_3 l0_3.length c0_3) := (blk_cell BK203.out 3).trans rfl
          have hfz30_0 := blk_frozen BK203.out 0
          have hfz30_1 := blk_frozen BK203.out 1
          have hfz30_2 := blk_frozen BK203.out 2
          have hfz30_3 := blk_frozen BK203.out 3
          have p205 : 0 ≤ (x5_2 : Int) := of_decide_eq_true z70_
          have q205 : x5_2 < (l0_3.length : Int) := of_decide_eq_true z70_
          obtain ⟨ad205, e205, hx205_0, hx205_1, hx205_2⟩ := at_T36 HR0_3.out x5_2 p205 q205
          cases e205
          replace hx205_0 := (HB.out.cell (World.block_lt_of_cell? w _ hx205_0)).trans hx205_0
          replace hx205_1 := (HB.out.cell (World.block_lt_of_cell? w _ hx205_1)).trans hx205_1
          replace hx205_2 := (HB.out.cell (World.block_lt_of_cell? w _ hx205_2)).trans hx205_2
          replace p205 := eq_true p205
          replace q205 := eq_true q205
          have hcz31_0 : wr.cell? ⟨gb204, 0, none⟩ = some (.int .u64 a1_0) := (blk_cell BK204.out 0).trans rfl
          have hcz31_1 : wr.cell? ⟨gb204, 1, none⟩ = some (.int .u64 a1_1) := (blk_cell BK204.out 1).trans rfl
          have hcz31_2 : wr.cell? ⟨gb204, 2, none⟩ = some (.string a1_2) := (blk_cell BK204.out 2).trans rfl
          have hcz31_3 : wr.cell? ⟨gb204, 3, none⟩ = some (.slice A1_3 l1_3.length c1_3) := (blk_cell BK204.out 3).trans rfl
          have hfz31_0 := blk_frozen BK204.out 0
          have hfz31_1 := blk_frozen BK204.out 1
          have hfz31_2 := blk_frozen BK204.out 2
          have hfz31_3 := blk_frozen BK204.out 3
          have p206 : 0 ≤ (x5_2 : Int) := of_decide_eq_true z70_
          have q206 : x5_2 < (l1_3.length : Int) := of_decide_eq_true z70_
          obtain ⟨ad206, e206, hx206_0, hx206_1, hx206_2⟩ := at_T36 HR1_3.out x5_2 p206 q206
          cases e206
          replace hx206_0 := (HB.out.cell (World.block_lt_of_cell? w _ hx206_0)).trans hx206_0
          replace hx206_1 := (HB.out.cell (World.block_lt_of_cell? w _ hx206_1)).trans hx206_1
          replace hx206_2 := (HB.out.cell (World.block_lt_of_cell? w _ hx206_2)).trans hx206_2
          replace p206 := eq_true p206
          replace q206 := eq_true q206
          go_wp2
          repeat (go_quiet (fail); try go_wp2)
          go_roundg k2
          case measure => have := HJ2.out; have := HK2.out; omega
          case rel => exact ⟨(wrap64 (x5_2 + 1)), z71_, H', ⟨by have := HJ2.out; have := HK2.out; omega⟩, ⟨z55_⟩, ⟨z56_⟩, ⟨z13_⟩⟩
        ·rw [if_neg c24] at H
         exact absurd H (by simp)
       ·rw [if_neg c23] at H
        exact absurd H (by simp)
      ·rw [if_neg c22] at H
       have c22b0 : decide (x5_2 < (l0_3.length : Int)) = false := decide_eq_false c22
       clear c22
       obtain rfl := Option.some.inj H
       have hnb32 := NB203_204.out
       have hnc32 := NB204_203.out
       have hcz33_0 : wr.cell? ⟨gb203, 0, none⟩ = some (.int .u64 a0_0) := (blk_cell BK203.out 0).trans rfl
       have hcz33_1 : wr.cell? ⟨gb203, 1, none⟩ = some (.int .u64 a0_1) := (blk_cell BK203.out 1).trans rfl
       have hcz33_2 : wr.cell? ⟨gb203, 2, none⟩ = some (.string a0_2) := (blk_cell BK203.out 2).trans rfl
       have hcz33_3 : wr.cell? ⟨gb203, 3, none⟩ = some (.slice A0_3 l0_3.length c0_3) := (blk_cell BK203.out 3).trans rfl
       have hfz33_0 := blk_frozen BK203.out 0
       have hfz33_1 := blk_frozen BK203.out 1
       have hfz33_2 := blk_frozen BK203.out 2
       have hfz33_3 := blk_frozen BK203.out 3
       go_wp2
       repeat (go_quiet (fail); try go_wp2)
       go_ret
       exact ⟨z64_, z13_⟩

/-! ### cambistref12_SameAll: function 7 -/
def cambistref12_SameAll.l0 : Nat → List (S39) → List (S39) → Int → Option (Bool)
 | 0, _, _, _ => none
 | k + 1, x0, x1, x5 => if x5 < (x0.length : Int) then (if 0 ≤ x5 then (if x5 < (x1.length : Int) then ((cambistref12_Same.f k ((rd_T39 x0 x5).f0) ((rd_T39 x0 x5).f1) ((rd_T39 x0 x5).f2) ((rd_T39 x0 x5).f3) ((rd_T39 x1 x5).f0) ((rd_T39 x1 x5).f1) ((rd_T39 x1 x5).f2) ((rd_T39 x1 x5).f3)).bind fun t209 => (if t209 = true then (cambistref12_SameAll.l0 k x0 x1 (wrap64 (x5 + 1))) else (some false))) else (none)) else (none)) else (some true)
def cambistref12_SameAll.f (k : Nat) (l0 : List (S39)) (l1 : List (S39)) : Option (Bool) := if (l0.length : Int) = (l1.length : Int) then (cambistref12_SameAll.l0 k l0 l1 0) else (some false)
theorem cambistref12_SameAll.mono_l : ∀ k, (∀ y0 y1 y2, LeO (cambistref12_SameAll.l0 k y0 y1 y2) (cambistref12_SameAll.l0 (k + 1) y0 y1 y2))
 | 0 => fun _ _ _ r h => by simp [cambistref12_SameAll.l0] at h
 | k + 1 => by
  have ih0 := cambistref12_SameAll.mono_l k
  ·intro y0 y1 y2
   unfold cambistref12_SameAll.l0
   repeat' first
   | (with_reducible exact ih0 _ _ _)
   | (with_reducible exact cambistref12_Same.mono _ _ _ _ _ _ _ _ _)
   | (with_reducible first | exact LeO.refl _ | exact LeO.none _ | refine LeO.ite ?_ ?_ | refine LeO.bind ?_ fun _ => ?_)
   | exact ih0 _ _ _
   | exact cambistref12_Same.mono _ _ _ _ _ _ _ _ _
theorem cambistref12_SameAll.mono : ∀ a0 a1 k, LeO (cambistref12_SameAll.f k a0 a1) (cambistref12_SameAll.f (k + 1) a0 a1) := by
 intro a0 a1 k
 have ih0 := cambistref12_SameAll.mono_l k
 unfold cambistref12_SameAll.f
 repeat' first
   | (with_reducible exact ih0 _ _ _)
   | (with_reducible exact cambistref12_Same.mono _ _ _ _ _ _ _ _ _)
   | (with_reducible first | exact LeO.refl _ | exact LeO.none _ | refine LeO.ite ?_ ?_ | refine LeO.bind ?_ fun _ => ?_)
   | exact ih0 _ _ _
   | exact cambistref12_Same.mono _ _ _ _ _ _ _ _ _
def cambistref12_SameAll.T6 : Bool × List (List Nat × List Nat) := (true, [([], []), ([], []), ([0, 1], [0, 1]), ([2], [2]), ([], []), ([], []), ([4, 5], [4, 5]), ([6], [6]), ([3, 7], [3, 7]), ([8, 8, 0, 1, 2, 3, 4, 5, 6, 7, 8], [8])])
def cambistref12_SameAll.B6 : List Nat := [0, 0, 3, 7, 0, 0, 48, 112, 255, 511]
theorem cambistref12_SameAll.tab6 : rtab .any (opsOf Tryz.f7 6) = cambistref12_SameAll.T6 := by kernel_rfl
theorem cambistref12_SameAll.bits6 : waitsOk cambistref12_SameAll.T6.2 cambistref12_SameAll.B6 = true := by kernel_rfl
set_option maxHeartbeats 8000000 in
set_option maxRecDepth 100000 in
theorem cambistref12_SameAll.calls (k : Nat) (A0 : Option Addr) (c0 : Nat) (l0 : List (S39)) (A1 : Option Addr) (c1 : Nat) (l1 : List (S39)) (r : Bool) (w : World) (hG : Glob w) (hr0 : Kd.C k39 w A0 l0.length l0) (hc0 : l0.length ≤ c0) (hr1 : Kd.C k39 w A1 l1.length l1) (hc1 : l1.length ≤ c1) (h : cambistref12_SameAll.f k l0 l1 = some r) :
  Calls Tryz.prog 7 #[.slice A0 l0.length c0, .slice A1 l1.length c1] w fun e w' => e = .returned (.bool r) ∧ Below w.heap.size w w' := by
 have hu39 := Tryz.underlying39
 have HG := a_ hG
 clear hG
 have HR0 := a_ hr0
 have HC0 := a_ hc0
 clear hr0 hc0
 have HR1 := a_ hr1
 have HC1 := a_ hc1
 clear hr1 hc1
 have HB := a_ (Below.refl w.heap.size w)
 have H : (if (l0.length : Int) = (l1.length : Int) then (cambistref12_SameAll.l0 k l0 l1 0) else (some false)) = some r := h
 clear h
 by_cases c3 : (l0.length : Int) = (l1.length : Int)
 ·rw [if_pos c3] at H
  have c3b0 : ((l0.length : Int) == (l1.length : Int)) = true := beq_iff_eq.mpr c3
  have c3b1 : ((l0.length : Int) != (l1.length : Int)) = false := bne_eq_false_iff_eq.mpr c3
  have c3b2 : (l0.length == l1.length) = true := by first | simpa using c3 | (simp at c3 ⊢; omega)
  clear c3
  have H' := a_ H
  clear H
  go_enter Tryz.func7, Tryz.ntmps7
  go_wp2
  go_loopg [5] k (fun kq v5 w' => ∃ (x5_1 : Int), v5 = .int .i64 x5_1 ∧ Aside0 (cambistref12_SameAll.l0 kq l0 l1 x5_1 = some r) ∧ Aside0 (kq ≤ k) ∧ Aside0 (Below w.heap.size w w'))
  case atStart => exact ⟨(0), z71_, H', ⟨Nat.le_refl _⟩, ⟨z33_⟩⟩
  case round =>
   clear H'
   try clear c1
   try clear p2
   try clear c3
   try clear c3b0
   try clear c3b1
   try clear c3b2
   obtain ⟨x5_1, rfl, HA, HK1, HB⟩ := hrel
   cases gk with
   | zero => exact absurd HA.out (by simp [cambistref12_SameAll.l0])
   | succ k1 =>
    have H := HA.out
    clear HA
    simp only [cambistref12_SameAll.l0] at H
    by_cases c4 : x5_1 < (l0.length : Int)
    ·rw [if_pos c4] at H
     have c4b0 : decide (x5_1 < (l0.length : Int)) = true := decide_eq_true c4
     clear c4
     by_cases c5 : 0 ≤ x5_1
     ·rw [if_pos c5] at H
      have c5b0 : decide (0 ≤ x5_1) = true := decide_eq_true c5
      clear c5
      by_cases c6 : x5_1 < (l1.length : Int)
      ·rw [if_pos c6] at H
       have c6b0 : decide (x5_1 < (l1.length : Int)) = true := decide_eq_true c6
       clear c6
       replace H := Option.bind_eq_some_iff.mp H
       obtain ⟨t209, A70, H⟩ := H
       replace H : (if t209 = true then (cambistref12_SameAll.l0 k1 l0 l1 (wrap64 (x5_1 + 1))) else (some false)) = some r := H
       have A7 := a_ A70
       clear A70
       by_cases c8 : t209 = true
       ·subst c8
        have H1 : (cambistref12_SameAll.l0 k1 l0 l1 (wrap64 (x5_1 + 1))) = some r := by rw [if_pos rfl] at H; exact H
        clear H
        have H := H1
        clear H1
        have H' := a_ H
        clear H
        try go_wp2
        have n0_ := a_ (below_drew1 HB.out)
        clear HB
        have HB := n0_
        clear n0_
        have p207 : 0 ≤ (x5_1 : Int) := of_decide_eq_true z70_
        have q207 : x5_1 < (l0.length : Int) := of_decide_eq_true z70_
        obtain ⟨ad207, A207_3, c207_3, e207, hx207_0, hx207_1, hx207_2, hx207_3, hl207_3, hi207_3⟩ := at_T39 HR0.out x5_1 p207 q207
        have hw207_3 := hx207_3
        have hw207_2 := hx207_2
        have hw207_1 := hx207_1
        have hw207_0 := hx207_0
        cases e207
        replace hx207_0 := (HB.out.cell (World.block_lt_of_cell? w _ hx207_0)).trans hx207_0
        replace hx207_1 := (HB.out.cell (World.block_lt_of_cell? w _ hx207_1)).trans hx207_1
        replace hx207_2 := (HB.out.cell (World.block_lt_of_cell? w _ hx207_2)).trans hx207_2
        replace hx207_3 := (HB.out.cell (World.block_lt_of_cell? w _ hx207_3)).trans hx207_3
        have HR207_3 := a_ hi207_3
        have HC207_3 := a_ hl207_3
        clear hi207_3 hl207_3
        replace p207 := eq_true p207
        replace q207 := eq_true q207
        have p208 : 0 ≤ (x5_1 : Int) := of_decide_eq_true z70_
        have q208 : x5_1 < (l1.length : Int) := of_decide_eq_true z70_
        obtain ⟨ad208, A208_3, c208_3, e208, hx208_0, hx208_1, hx208_2, hx208_3, hl208_3, hi208_3⟩ := at_T39 HR1.out x5_1 p208 q208
        have hw208_3 := hx208_3
        have hw208_2 := hx208_2
        have hw208_1 := hx208_1
        have hw208_0 := hx208_0
        cases e208
        replace hx208_0 := (HB.out.cell (World.block_lt_of_cell? w _ hx208_0)).trans hx208_0
        replace hx208_1 := (HB.out.cell (World.block_lt_of_cell? w _ hx208_1)).trans hx208_1
        replace hx208_2 := (HB.out.cell (World.block_lt_of_cell? w _ hx208_2)).trans hx208_2
        replace hx208_3 := (HB.out.cell (World.block_lt_of_cell? w _ hx208_3)).trans hx208_3
        have HR208_3 := a_ hi208_3
        have HC208_3 := a_ hl208_3
        clear hi208_3 hl208_3
        replace p208 := eq_true p208
        replace q208 := eq_true q208
        refine start_ (n := 10) (S := fun w' => w'.cell? (ad207.add ((x5_1).toNat * 4)) = some (.int .u64 ((rd_T39 l0 x5_1).f0)) ∧ w'.cell? ⟨(ad207.add ((x5_1).toNat * 4)).block, (ad207.add ((x5_1).toNat * 4)).off + 1, none⟩ = some (.int .u64 ((rd_T39 l0 x5_1).f1)) ∧ w'.cell? ⟨(ad207.add ((x5_1).toNat * 4)).block, (ad207.add ((x5_1).toNat * 4)).off + 2, none⟩ = some (.string ((rd_T39 l0 x5_1).f2)) ∧ w'.cell? ⟨(ad207.add ((x5_1).toNat * 4)).block, (ad207.add ((x5_1).toNat * 4)).off + 3, none⟩ = some (.slice A207_3 ((rd_T39 l0 x5_1).f3).length c207_3) ∧ w'.cell? (ad208.add ((x5_1).toNat * 4)) = some (.int .u64 ((rd_T39 l1 x5_1).f0)) ∧ w'.cell? ⟨(ad208.add ((x5_1).toNat * 4)).block, (ad208.add ((x5_1).toNat * 4)).off + 1, none⟩ = some (.int .u64 ((rd_T39 l1 x5_1).f1)) ∧ w'.cell? ⟨(ad208.add ((x5_1).toNat * 4)).block, (ad208.add ((x5_1).toNat * 4)).off + 2, none⟩ = some (.string ((rd_T39 l1 x5_1).f2)) ∧ w'.cell? ⟨(ad208.add ((x5_1).toNat * 4)).block, (ad208.add ((x5_1).toNat * 4)).off + 3, none⟩ = some (.slice A208_3 ((rd_T39 l1 x5_1).f3).length c208_3)) (ds := []) #[false, false, false, false, false, false, false, false, false, false] z74_ rfl rfl ⟨((HB.out.cell (World.block_lt_of_cell? w _ hw207_0)).trans hw207_0), ((HB.out.cell (World.block_lt_of_cell? w _ hw207_1)).trans hw207_1), ((HB.out.cell (World.block_lt_of_cell? w _ hw207_2)).trans hw207_2), ((HB.out.cell (World.block_lt_of_cell? w _ hw207_3)).trans hw207_3), ((HB.out.cell (World.block_lt_of_cell? w _ hw208_0)).trans hw208_0), ((HB.out.cell (World.block_lt_of_cell? w _ hw208_1)).trans hw208_1), ((HB.out.cell (World.block_lt_of_cell? w _ hw208_2)).trans hw208_2), ((HB.out.cell (World.block_lt_of_cell? w _ hw208_3)).trans hw208_3)⟩ (fun hHeld => ?_); refine with_tabW cambistref12_SameAll.tab6 cambistref12_SameAll.bits6 (fun HT_ HW_ => ?_)
        generalize wr.drew = w9 at HB HR207_3 HR208_3 hx207_0 hx207_1 hx207_2 hx207_3 hx208_0 hx208_1 hx208_2 hx208_3 hHeld ⊢
        refine pure_ (i := 0) (N := some 18) (v := ?_) (a' := ?_) (fl_ 10 1) rfl rfl (any_of HT_.out z74_) (fun _ _ _ h => h) (Or.inl ⟨by rfl, ?_⟩) ?_ ?_
        rotate_left
        ·intro w'
         go_simp
         with_reducible rfl
        rotate_left
        ·simp only [Act.put, sT_, s0_, sS_, i64_w, i32_w]
         rfl
        refine pure_ (i := 1) (N := some 19) (v := ?_) (a' := ?_) (fl_ 10 3) rfl rfl (any_of HT_.out z74_) (fun _ _ _ h => h) (Or.inl ⟨by rfl, ?_⟩) ?_ ?_
        rotate_left
        ·intro w'
         go_simp
         with_reducible rfl
        rotate_left
        ·simp only [Act.put, sT_, s0_, sS_, i64_w, i32_w]
         rfl
        refine pure_ (i := 2) (N := some 20) (v := ?_) (a' := ?_) (fl_ 10 7) rfl rfl (any_of HT_.out z74_) (fun _ _ _ h => h) (Or.inl ⟨by rfl, ?_⟩) ?_ ?_
        rotate_left
        ·intro w'
         go_simp
         with_reducible rfl
        rotate_left
        ·simp only [Act.put, sT_, s0_, sS_, i64_w, i32_w]
         rfl
        refine pure_ (i := 4) (N := some 22) (v := ?_) (a' := ?_) (fl_ 10 23) rfl rfl (any_of HT_.out z74_) (fun _ _ _ h => h) (Or.inl ⟨by rfl, ?_⟩) ?_ ?_
        rotate_left
        ·intro w'
         go_simp
         with_reducible rfl
        rotate_left
        ·simp only [Act.put, sT_, s0_, sS_, i64_w, i32_w]
         rfl
        refine pure_ (i := 5) (N := some 23) (v := ?_) (a' := ?_) (fl_ 10 55) rfl rfl (any_of HT_.out z74_) (fun _ _ _ h => h) (Or.inl ⟨by rfl, ?_⟩) ?_ ?_
        rotate_left
        ·intro w'
         go_simp
         with_reducible rfl
        rotate_left
        ·simp only [Act.put, sT_, s0_, sS_, i64_w, i32_w]
         rfl
        refine pure_ (i := 6) (N := some 24) (v := ?_) (a' := ?_) (fl_ 10 119) rfl rfl (any_of HT_.out z74_) (fun _ _ _ h => h) (Or.inl ⟨by rfl, ?_⟩) ?_ ?_
        rotate_left
        ·intro w'
         go_simp
         with_reducible rfl
        rotate_left
        ·simp only [Act.put, sT_, s0_, sS_, i64_w, i32_w]
         rfl
        refine take_ (i := 3) (N := some 21) (v := ?_) (a' := ?_) (fl_ 10 127) rfl rfl (take_ofW HT_.out HW_.out z74_) (fun _ _ _ h => h) (Or.inl ⟨by rfl, ?_⟩) hHeld ?_ ?_
        rotate_left
        ·rintro w' ⟨s0, s1, s2, s3, s4, s5, s6, s7⟩
         go_simp
         with_reducible rfl
        rotate_left
        ·simp only [Act.put, sT_, s0_, sS_, i64_w, i32_w]
         rfl
        refine take_ (i := 7) (N := some 25) (v := ?_) (a' := ?_) (fl_ 10 255) rfl rfl (take_ofW HT_.out HW_.out z74_) (fun _ _ _ h => h) (Or.inl ⟨by rfl, ?_⟩) hHeld ?_ ?_
        rotate_left
        ·rintro w' ⟨s0, s1, s2, s3, s4, s5, s6, s7⟩
         go_simp
         with_reducible rfl
        rotate_left
        ·simp only [Act.put, sT_, s0_, sS_, i64_w, i32_w]
         rfl
        refine one_ (i := 8) (N := some 26) (fl_ 10 511) rfl rfl (one_of HT_.out z74_) (by decide) (fun K hK => ?_)
        refine goes_ Tryz.func17 z74_ rfl #[.agg #[.int .u64 ((rd_T39 l0 x5_1).f0), .int .u64 ((rd_T39 l0 x5_1).f1), .string ((rd_T39 l0 x5_1).f2), .slice A207_3 ((rd_T39 l0 x5_1).f3).length c207_3], .agg #[.int .u64 ((rd_T39 l1 x5_1).f0), .int .u64 ((rd_T39 l1 x5_1).f1), .string ((rd_T39 l1 x5_1).f2), .slice A208_3 ((rd_T39 l1 x5_1).f3).length c208_3]] (by rfl) rfl rfl z19_ ?_
        with_reducible refine (cambistref12_Same.calls k1 ((rd_T39 l0 x5_1).f0) ((rd_T39 l0 x5_1).f1) ((rd_T39 l0 x5_1).f2) _ _ ((rd_T39 l0 x5_1).f3) ((rd_T39 l1 x5_1).f0) ((rd_T39 l1 x5_1).f1) ((rd_T39 l1 x5_1).f2) _ _ ((rd_T39 l1 x5_1).f3) true _ ?side1 ?side2 ?side3 ?side4 ?side5 A7.out).mono ?_
        (case side1 => exact Glob.below HG.out z33_)
        (case side2 => repeat (first | exact (Kd.C_below HR207_3.out HB.out) | (with_reducible refine Kd.C_alloc ?_ _) | (with_reducible refine Kd.C_drewN ?_ _) | (with_reducible refine Kd.C_drew ?_)))
        (case side3 => exact HC207_3.out)
        (case side4 => repeat (first | exact (Kd.C_below HR208_3.out HB.out) | (with_reducible refine Kd.C_alloc ?_ _) | (with_reducible refine Kd.C_drewN ?_ _) | (with_reducible refine Kd.C_drew ?_)))
        (case side5 => exact HC208_3.out)
        rintro e w10 ⟨rfl, hb⟩
        refine ⟨_, rfl, ?_⟩
        have n0_ := a_ (below_step z33_ hb)
        clear HB
        have HB := n0_
        clear n0_
        (try clear hb)
        (try clear hb2)
        (try clear hk)
        (try clear hi)
        refine hK.out _ _ ⟨((HB.out.cell (World.block_lt_of_cell? w _ hw207_0)).trans hw207_0), ((HB.out.cell (World.block_lt_of_cell? w _ hw207_1)).trans hw207_1), ((HB.out.cell (World.block_lt_of_cell? w _ hw207_2)).trans hw207_2), ((HB.out.cell (World.block_lt_of_cell? w _ hw207_3)).trans hw207_3), ((HB.out.cell (World.block_lt_of_cell? w _ hw208_0)).trans hw208_0), ((HB.out.cell (World.block_lt_of_cell? w _ hw208_1)).trans hw208_1), ((HB.out.cell (World.block_lt_of_cell? w _ hw208_2)).trans hw208_2), ((HB.out.cell (World.block_lt_of_cell? w _ hw208_3)).trans hw208_3)⟩ (fun hHeld => ?_)
        clear hK K
        refine norm_ (a' := ?_) ?_ ?_
        rotate_left
        ·show Act.put _ (some 26) _ = _
         simp only [Act.put, sT_, s0_, sS_, i64_w, i32_w]
         rfl
        refine pure_ (i := 9) (N := some 6) (v := ?_) (a' := ?_) (fl_ 10 1023) rfl rfl (any_of HT_.out z74_) (fun _ _ _ h => h) (Or.inl ⟨by rfl, ?_⟩) ?_ ?_
        rotate_left
        ·intro w'
         go_simp
         with_reducible rfl
        rotate_left
        ·simp only [Act.put, sT_, s0_, sS_, i64_w, i32_w]
         rfl
        refine done_ (done_of HT_.out z74_) ?_
        try go_wp2
        go_roundg k1
        case measure => have := HK1.out; omega
        case rel => exact ⟨(wrap64 (x5_1 + 1)), z71_, H', ⟨z73_⟩, ⟨z33_⟩⟩
       ·replace c8 := Bool.eq_false_iff.mpr c8
        subst c8
        have H1 : (some false) = some r := by rw [if_neg (show ¬ (false = true) by decide)] at H; exact H
        clear H
        have H := H1
        clear H1
        obtain rfl := Option.some.inj H
        try go_wp2
        have n0_ := a_ (below_drew1 HB.out)
        clear HB
        have HB := n0_
        clear n0_
        have p207 : 0 ≤ (x5_1 : Int) := of_decide_eq_true z70_
        have q207 : x5_1 < (l0.length : Int) := of_decide_eq_true z70_
        obtain ⟨ad207, A207_3, c207_3, e207, hx207_0, hx207_1, hx207_2, hx207_3, hl207_3, hi207_3⟩ := at_T39 HR0.out x5_1 p207 q207
        have hw207_3 := hx207_3
        have hw207_2 := hx207_2
        have hw207_1 := hx207_1
        have hw207_0 := hx207_0
        cases e207
        replace hx207_0 := (HB.out.cell (World.block_lt_of_cell? w _ hx207_0)).trans hx207_0
        replace hx207_1 := (HB.out.cell (World.block_lt_of_cell? w _ hx207_1)).trans hx207_1
        replace hx207_2 := (HB.out.cell (World.block_lt_of_cell? w _ hx207_2)).trans hx207_2
        replace hx207_3 := (HB.out.cell (World.block_lt_of_cell? w _ hx207_3)).trans hx207_3
        have HR207_3 := a_ hi207_3
        have HC207_3 := a_ hl207_3
        clear hi207_3 hl207_3
        replace p207 := eq_true p207
        replace q207 := eq_true q207
        have p208 : 0 ≤ (x5_1 : Int) := of_decide_eq_true z70_
        have q208 : x5_1 < (l1.length : Int) := of_decide_eq_true z70_
        obtain ⟨ad208, A208_3, c208_3, e208, hx208_0, hx208_1, hx208_2, hx208_3, hl208_3, hi208_3⟩ := at_T39 HR1.out x5_1 p208 q208
        have hw208_3 := hx208_3
        have hw208_2 := hx208_2
        have hw208_1 := hx208_1
        have hw208_0 := hx208_0
        cases e208
        replace hx208_0 := (HB.out.cell (World.block_lt_of_cell? w _ hx208_0)).trans hx208_0
        replace hx208_1 := (HB.out.cell (World.block_lt_of_cell? w _ hx208_1)).trans hx208_1
        replace hx208_2 := (HB.out.cell (World.block_lt_of_cell? w _ hx208_2)).trans hx208_2
        replace hx208_3 := (HB.out.cell (World.block_lt_of_cell? w _ hx208_3)).trans hx208_3
        have HR208_3 := a_ hi208_3
        have HC208_3 := a_ hl208_3
        clear hi208_3 hl208_3
        replace p208 := eq_true p208
        replace q208 := eq_true q208
        refine start_ (n := 10) (S := fun w' => w'.cell? (ad207.add ((x5_1).toNat * 4)) = some (.int .u64 ((rd_T39 l0 x5_1).f0)) ∧ w'.cell? ⟨(ad207.add ((x5_1).toNat * 4)).block, (ad207.add ((x5_1).toNat * 4)).off + 1, none⟩ = some (.int .u64 ((rd_T39 l0 x5_1).f1)) ∧ w'.cell? ⟨(ad207.add ((x5_1).toNat * 4)).block, (ad207.add ((x5_1).toNat * 4)).off + 2, none⟩ = some (.string ((rd_T39 l0 x5_1).f2)) ∧ w'.cell? ⟨(ad207.add ((x5_1).toNat * 4)).block, (ad207.add ((x5_1).toNat * 4)).off + 3, none⟩ = some (.slice A207_3 ((rd_T39 l0 x5_1).f3).length c207_3) ∧ w'.cell? (ad208.add ((x5_1).toNat * 4)) = some (.int .u64 ((rd_T39 l1 x5_1).f0)) ∧ w'.cell? ⟨(ad208.add ((x5_1).toNat * 4)).block, (ad208.add ((x5_1).toNat * 4)).off + 1, none⟩ = some (.int .u64 ((rd_T39 l1 x5_1).f1)) ∧ w'.cell? ⟨(ad208.add ((x5_1).toNat * 4)).block, (ad208.add ((x5_1).toNat * 4)).off + 2, none⟩ = some (.string ((rd_T39 l1 x5_1).f2)) ∧ w'.cell? ⟨(ad208.add ((x5_1).toNat * 4)).block, (ad208.add ((x5_1).toNat * 4)).off + 3, none⟩ = some (.slice A208_3 ((rd_T39 l1 x5_1).f3).length c208_3)) (ds := []) #[false, false, false, false, false, false, false, false, false, false] z74_ rfl rfl ⟨((HB.out.cell (World.block_lt_of_cell? w _ hw207_0)).trans hw207_0), ((HB.out.cell (World.block_lt_of_cell? w _ hw207_1)).trans hw207_1), ((HB.out.cell (World.block_lt_of_cell? w _ hw207_2)).trans hw207_2), ((HB.out.cell (World.block_lt_of_cell? w _ hw207_3)).trans hw207_3), ((HB.out.cell (World.block_lt_of_cell? w _ hw208_0)).trans hw208_0), ((HB.out.cell (World.block_lt_of_cell? w _ hw208_1)).trans hw208_1), ((HB.out.cell (World.block_lt_of_cell? w _ hw208_2)).trans hw208_2), ((HB.out.cell (World.block_lt_of_cell? w _ hw208_3)).trans hw208_3)⟩ (fun hHeld => ?_); refine with_tabW cambistref12_SameAll.tab6 cambistref12_SameAll.bits6 (fun HT_ HW_ => ?_)
        generalize wr.drew = w11 at HB HR207_3 HR208_3 hx207_0 hx207_1 hx207_2 hx207_3 hx208_0 hx208_1 hx208_2 hx208_3 hHeld ⊢
        refine pure_ (i := 0) (N := some 18) (v := ?_) (a' := ?_) (fl_ 10 1) rfl rfl (any_of HT_.out z74_) (fun _ _ _ h => h) (Or.inl ⟨by rfl, ?_⟩) ?_ ?_
        rotate_left
        ·intro w'
         go_simp
         with_reducible rfl
        rotate_left
        ·simp only [Act.put, sT_, s0_, sS_, i64_w, i32_w]
         rfl
        refine pure_ (i := 1) (N := some 19) (v := ?_) (a' := ?_) (fl_ 10 3) rfl rfl (any_of HT_.out z74_) (fun _ _ _ h => h) (Or.inl ⟨by rfl, ?_⟩) ?_ ?_
        rotate_left
        ·intro w'
         go_simp
         with_reducible rfl
        rotate_left
        ·simp only [Act.put, sT_, s0_, sS_, i64_w, i32_w]
         rfl
        refine pure_ (i := 2) (N := some 20) (v := ?_) (a' := ?_) (fl_ 10 7) rfl rfl (any_of HT_.out z74_) (fun _ _ _ h => h) (Or.inl ⟨by rfl, ?_⟩) ?_ ?_
        rotate_left
        ·intro w'
         go_simp
         with_reducible rfl
        rotate_left
        ·simp only [Act.put, sT_, s0_, sS_, i64_w, i32_w]
         rfl
        refine pure_ (i := 4) (N := some 22) (v := ?_) (a' := ?_) (fl_ 10 23) rfl rfl (any_of HT_.out z74_) (fun _ _ _ h => h) (Or.inl ⟨by rfl, ?_⟩) ?_ ?_
        rotate_left
        ·intro w'
         go_simp
         with_reducible rfl
        rotate_left
        ·simp only [Act.put, sT_, s0_, sS_, i64_w, i32_w]
         rfl
        refine pure_ (i := 5) (N := some 23) (v := ?_) (a' := ?_) (fl_ 10 55) rfl rfl (any_of HT_.out z74_) (fun _ _ _ h => h) (Or.inl ⟨by rfl, ?_⟩) ?_ ?_
        rotate_left
        ·intro w'
         go_simp
         with_reducible rfl
        rotate_left
        ·simp only [Act.put, sT_, s0_, sS_, i64_w, i32_w]
         rfl
        refine pure_ (i := 6) (N := some 24) (v := ?_) (a' := ?_) (fl_ 10 119) rfl rfl (any_of HT_.out z74_) (fun _ _ _ h => h) (Or.inl ⟨by rfl, ?_⟩) ?_ ?_
        rotate_left
        ·intro w'
         go_simp
         with_reducible rfl
        rotate_left
        ·simp only [Act.put, sT_, s0_, sS_, i64_w, i32_w]
         rfl
        refine take_ (i := 3) (N := some 21) (v := ?_) (a' := ?_) (fl_ 10 127) rfl rfl (take_ofW HT_.out HW_.out z74_) (fun _ _ _ h => h) (Or.inl ⟨by rfl, ?_⟩) hHeld ?_ ?_
        rotate_left
        ·rintro w' ⟨s0, s1, s2, s3, s4, s5, s6, s7⟩
         go_simp
         with_reducible rfl
        rotate_left
        ·simp only [Act.put, sT_, s0_, sS_, i64_w, i32_w]
         rfl
        refine take_ (i := 7) (N := some 25) (v := ?_) (a' := ?_) (fl_ 10 255) rfl rfl (take_ofW HT_.out HW_.out z74_) (fun _ _ _ h => h) (Or.inl ⟨by rfl, ?_⟩) hHeld ?_ ?_
        rotate_left
        ·rintro w' ⟨s0, s1, s2, s3, s4, s5, s6, s7⟩
         go_simp
         with_reducible rfl
        rotate_left
        ·simp only [Act.put, sT_, s0_, sS_, i64_w, i32_w]
         rfl
        refine one_ (i := 8) (N := some 26) (fl_ 10 511) rfl rfl (one_of HT_.out z74_) (by decide) (fun K hK => ?_)
        refine goes_ Tryz.func17 z74_ rfl #[.agg #[.int .u64 ((rd_T39 l0 x5_1).f0), .int .u64 ((rd_T39 l0 x5_1).f1), .string ((rd_T39 l0 x5_1).f2), .slice A207_3 ((rd_T39 l0 x5_1).f3).length c207_3], .agg #[.int .u64 ((rd_T39 l1 x5_1).f0), .int .u64 ((rd_T39 l1 x5_1).f1), .string ((rd_T39 l1 x5_1).f2), .slice A208_3 ((rd_T39 l1 x5_1).f3).length c208_3]] (by rfl) rfl rfl z19_ ?_
        with_reducible refine (cambistref12_Same.calls k1 ((rd_T39 l0 x5_1).f0) ((rd_T39 l0 x5_1).f1) ((rd_T39 l0 x5_1).f2) _ _ ((rd_T39 l0 x5_1).f3) ((rd_T39 l1 x5_1).f0) ((rd_T39 l1 x5_1).f1) ((rd_T39 l1 x5_1).f2) _ _ ((rd_T39 l1 x5_1).f3) false _ ?side1 ?side2 ?side3 ?side4 ?side5 A7.out).mono ?_
        (case side1 => exact Glob.below HG.out z33_)
        (case side2 => repeat (first | exact (Kd.C_below HR207_3.out HB.out) | (with_reducible refine Kd.C_alloc ?_ _) | (with_reducible refine Kd.C_drewN ?_ _) | (with_reducible refine Kd.C_drew ?_)))
        (case side3 => exact HC207_3.out)
        (case side4 => repeat (first | exact (Kd.C_below HR208_3.out HB.out) | (with_reducible refine Kd.C_alloc ?_ _) | (with_reducible refine Kd.C_drewN ?_ _) | (with_reducible refine Kd.C_drew ?_)))
        (case side5 => exact HC208_3.out)
        rintro e w12 ⟨rfl, hb⟩
        refine ⟨_, rfl, ?_⟩
        have n0_ := a_ (below_step z33_ hb)
        clear HB
        have HB := n0_
        clear n0_
        (try clear hb)
        (try clear hb2)
        (try clear hk)
        (try clear hi)
        refine hK.out _ _ ⟨((HB.out.cell (World.block_lt_of_cell? w _ hw207_0)).trans hw207_0), ((HB.out.cell (World.block_lt_of_cell? w _ hw207_1)).trans hw207_1), ((HB.out.cell (World.block_lt_of_cell? w _ hw207_2)).trans hw207_2), ((HB.out.cell (World.block_lt_of_cell? w _ hw207_3)).trans hw207_3), ((HB.out.cell (World.block_lt_of_cell? w _ hw208_0)).trans hw208_0), ((HB.out.cell (World.block_lt_of_cell? w _ hw208_1)).trans hw208_1), ((HB.out.cell (World.block_lt_of_cell? w _ hw208_2)).trans hw208_2), ((HB.out.cell (World.block_lt_of_cell? w _ hw208_3)).trans hw208_3)⟩ (fun hHeld => ?_)
        clear hK K
        refine norm_ (a' := ?_) ?_ ?_
        rotate_left
        ·show Act.put _ (some 26) _ = _
         simp only [Act.put, sT_, s0_, sS_, i64_w, i32_w]
         rfl
        refine pure_ (i := 9) (N := some 6) (v := ?_) (a' := ?_) (fl_ 10 1023) rfl rfl (any_of HT_.out z74_) (fun _ _ _ h => h) (Or.inl ⟨by rfl, ?_⟩) ?_ ?_
        rotate_left
        ·intro w'
         go_simp
         with_reducible rfl
        rotate_left
        ·simp only [Act.put, sT_, s0_, sS_, i64_w, i32_w]
         rfl
        refine done_ (done_of HT_.out z74_) ?_
        try go_wp2
        go_ret
        exact ⟨z64_, z33_⟩
      ·rw [if_neg c6] at H
       exact absurd H (by simp)
     ·rw [if_neg c5] at H
      exact absurd H (by simp)
    ·rw [if_neg c4] at H
     have c4b0 : decide (x5_1 < (l0.length : Int)) = false := decide_eq_false c4
     clear c4
     obtain rfl := Option.some.inj H
     go_wp2
     go_ret
     exact ⟨z64_, z33_⟩
 ·rw [if_neg c3] at H
  have c3b0 : ((l0.length : Int) == (l1.length : Int)) = false := beq_eq_false_iff_ne.mpr c3
  have c3b1 : ((l0.length : Int) != (l1.length : Int)) = true := bne_iff_ne.mpr c3
  have c3b2 : (l0.length == l1.length) = false := by first | simpa using c3 | (simp at c3 ⊢; omega)
  obtain rfl := Option.some.inj H
  go_enter Tryz.func7, Tryz.ntmps7
  go_wp2
  go_ret
  exact ⟨z64_, z33_⟩

end Go.Proofs.YtjlifcbddednaaaGreatDoor.P
