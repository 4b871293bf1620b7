-- Laid by wip/tools/cprint.py of this claim's own repo (over the kit's print).
import Derived.Test.YtnngbnhbmgdkoaaGreatDoorSq
import Derived.Test.YtnngbnhbmgdkoaaGreatDoorPx0
import Derived.Test.YtnngbnhbmgdkoaaGreatDoorPx1
namespace Go.Proofs.YtnngbnhbmgdkoaaGreatDoor.P
open Go.RowKit Go.Proofs.YtnngbnhbmgdkoaaGreatDoor.E Go.Proofs.YtnngbnhbmgdkoaaGreatDoorW.PrintWords Go.Proofs.YtnngbnhbmgdkoaaGreatDoorW.PrintLast
set_option linter.unusedVariables false
set_option linter.unusedSimpArgs false

attribute [local go_sem high] eqA37
/-! ### cambistref19_Same: function 10 -/
mutual
def cambistref19_Same.j0 : Nat → Bool → ByteArray → ByteArray → Int → Int → List (S37) → Int → ByteArray → ByteArray → Int → Int → List (S37) → Int → Option (Bool)
 | 0, _, _, _, _, _, _, _, _, _, _, _, _, _ => none
 | k + 1, x47, x150000, x150001, x150002, x150003, x150004, x150005, x151000, x151001, x151002, x151003, x151004, x151005 => if x47 = true then (some false) else (cambistref19_Same.l0 k 0 x150000 x150001 x150002 x150003 x150004 x150005 x151000 x151001 x151002 x151003 x151004 x151005)
def cambistref19_Same.l0 : Nat → Int → ByteArray → ByteArray → Int → Int → List (S37) → Int → ByteArray → ByteArray → Int → Int → List (S37) → Int → Option (Bool)
 | 0, _, _, _, _, _, _, _, _, _, _, _, _, _ => none
 | k + 1, x5, x150000, x150001, x150002, x150003, x150004, x150005, x151000, x151001, x151002, x151003, x151004, x151005 => if x5 < (x150004.length : Int) then (if 0 ≤ x5 then (if x5 < (x151004.length : Int) then (if (!(((rd_T37 x150004 x5).f0) == ((rd_T37 x151004 x5).f0)) || (!((((rd_T37 x150004 x5).f1).toList) == (((rd_T37 x151004 x5).f1).toList)) || (!(((rd_T37 x150004 x5).f2) == ((rd_T37 x151004 x5).f2))))) = true then (some false) else (cambistref19_Same.l0 k (wrap64 (x5 + 1)) x150000 x150001 x150002 x150003 x150004 x150005 x151000 x151001 x151002 x151003 x151004 x151005)) else (none)) else (none)) else (some true)
end
def cambistref19_Same.f (k : Nat) (a0_0 : ByteArray) (a0_1 : ByteArray) (a0_2 : Int) (a0_3 : Int) (l0_4 : List (S37)) (a0_5 : Int) (a1_0 : ByteArray) (a1_1 : ByteArray) (a1_2 : Int) (a1_3 : Int) (l1_4 : List (S37)) (a1_5 : Int) : Option (Bool) := if a0_0.toList = a1_0.toList then (if a0_1.toList = a1_1.toList then (if a0_2 = a1_2 then (if a0_3 = a1_3 then (if a0_5 = a1_5 then (cambistref19_Same.j0 k ((l0_4.length : Int) != (l1_4.length : Int)) a0_0 a0_1 a0_2 a0_3 l0_4 a0_5 a1_0 a1_1 a1_2 a1_3 l1_4 a1_5) else (cambistref19_Same.j0 k true a0_0 a0_1 a0_2 a0_3 l0_4 a0_5 a1_0 a1_1 a1_2 a1_3 l1_4 a1_5)) else (cambistref19_Same.j0 k true a0_0 a0_1 a0_2 a0_3 l0_4 a0_5 a1_0 a1_1 a1_2 a1_3 l1_4 a1_5)) else (cambistref19_Same.j0 k true a0_0 a0_1 a0_2 a0_3 l0_4 a0_5 a1_0 a1_1 a1_2 a1_3 l1_4 a1_5)) else (cambistref19_Same.j0 k true a0_0 a0_1 a0_2 a0_3 l0_4 a0_5 a1_0 a1_1 a1_2 a1_3 l1_4 a1_5)) else (cambistref19_Same.j0 k true a0_0 a0_1 a0_2 a0_3 l0_4 a0_5 a1_0 a1_1 a1_2 a1_3 l1_4 a1_5)
theorem cambistref19_Same.mono_l : ∀ k, (∀ y0 y1 y2 y3 y4 y5 y6 y7 y8 y9 y10 y11 y12, LeO (cambistref19_Same.j0 k y0 y1 y2 y3 y4 y5 y6 y7 y8 y9 y10 y11 y12) (cambistref19_Same.j0 (k + 1) y0 y1 y2 y3 y4 y5 y6 y7 y8 y9 y10 y11 y12)) ∧ (∀ y0 y1 y2 y3 y4 y5 y6 y7 y8 y9 y10 y11 y12, LeO (cambistref19_Same.l0 k y0 y1 y2 y3 y4 y5 y6 y7 y8 y9 y10 y11 y12) (cambistref19_Same.l0 (k + 1) y0 y1 y2 y3 y4 y5 y6 y7 y8 y9 y10 y11 y12))
 | 0 => ⟨fun _ _ _ _ _ _ _ _ _ _ _ _ _ r h => by simp [cambistref19_Same.j0] at h, fun _ _ _ _ _ _ _ _ _ _ _ _ _ r h => by simp [cambistref19_Same.l0] at h⟩
 | k + 1 => by
  obtain ⟨ih0, ih1⟩ := cambistref19_Same.mono_l k
  refine ⟨?_, ?_⟩
  ·intro y0 y1 y2 y3 y4 y5 y6 y7 y8 y9 y10 y11 y12
   unfold cambistref19_Same.j0
   repeat' first
   | (with_reducible exact ih0 _ _ _ _ _ _ _ _ _ _ _ _ _)
   | (with_reducible exact ih1 _ _ _ _ _ _ _ _ _ _ _ _ _)
   | (with_reducible first | exact LeO.refl _ | exact LeO.none _ | refine LeO.ite ?_ ?_ | refine LeO.bind ?_ fun _ => ?_)
   | exact ih0 _ _ _ _ _ _ _ _ _ _ _ _ _
   | exact ih1 _ _ _ _ _ _ _ _ _ _ _ _ _
  ·intro y0 y1 y2 y3 y4 y5 y6 y7 y8 y9 y10 y11 y12
   unfold cambistref19_Same.l0
   repeat' first
   | (with_reducible exact ih0 _ _ _ _ _ _ _ _ _ _ _ _ _)
   | (with_reducible exact ih1 _ _ _ _ _ _ _ _ _ _ _ _ _)
   | (with_reducible first | exact LeO.refl _ | exact LeO.none _ | refine LeO.ite ?_ ?_ | refine LeO.bind ?_ fun _ => ?_)
   | exact ih0 _ _ _ _ _ _ _ _ _ _ _ _ _
   | exact ih1 _ _ _ _ _ _ _ _ _ _ _ _ _
theorem cambistref19_Same.mono : ∀ a0 a1 a2 a3 a4 a5 a6 a7 a8 a9 a10 a11 k, LeO (cambistref19_Same.f k a0 a1 a2 a3 a4 a5 a6 a7 a8 a9 a10 a11) (cambistref19_Same.f (k + 1) a0 a1 a2 a3 a4 a5 a6 a7 a8 a9 a10 a11) := by
 intro a0 a1 a2 a3 a4 a5 a6 a7 a8 a9 a10 a11 k
 obtain ⟨ih0, ih1⟩ := cambistref19_Same.mono_l k
 unfold cambistref19_Same.f
 repeat' first
   | (with_reducible exact ih0 _ _ _ _ _ _ _ _ _ _ _ _ _)
   | (with_reducible exact ih1 _ _ _ _ _ _ _ _ _ _ _ _ _)
   | (with_reducible first | exact LeO.refl _ | exact LeO.none _ | refine LeO.ite ?_ ?_ | refine LeO.bind ?_ fun _ => ?_)
   | exact ih0 _ _ _ _ _ _ _ _ _ _ _ _ _
   | exact ih1 _ _ _ _ _ _ _ _ _ _ _ _ _
set_option maxHeartbeats 8000000 in
set_option maxRecDepth 100000 in
theorem cambistref19_Same.calls (k : Nat) (a0_0 : ByteArray) (a0_1 : ByteArray) (a0_2 : Int) (a0_3 : Int) (A0_4 : Option Addr) (c0_4 : Nat) (l0_4 : List (S37)) (a0_5 : Int) (a1_0 : ByteArray) (a1_1 : ByteArray) (a1_2 : Int) (a1_3 : Int) (A1_4 : Option Addr) (c1_4 : Nat) (l1_4 : List (S37)) (a1_5 : Int) (r : Bool) (w : World) (hG : Glob w) (hr0_4 : Kd.C k37 w A0_4 l0_4.length l0_4) (hc0_4 : l0_4.length ≤ c0_4) (hr1_4 : Kd.C k37 w A1_4 l1_4.length l1_4) (hc1_4 : l1_4.length ≤ c1_4) (h : cambistref19_Same.f k a0_0 a0_1 a0_2 a0_3 l0_4 a0_5 a1_0 a1_1 a1_2 a1_3 l1_4 a1_5 = some r) :
  Calls Tryz.prog 10 #[.agg #[.string a0_0, .string a0_1, .int .u64 a0_2, .int .i64 a0_3, .slice A0_4 l0_4.length c0_4, .int .i64 a0_5], .agg #[.string a1_0, .string a1_1, .int .u64 a1_2, .int .i64 a1_3, .slice A1_4 l1_4.length c1_4, .int .i64 a1_5]] w fun e w' => e = .returned (.bool r) ∧ Below w.heap.size w w' := by
 have hu25 := Tryz.underlying25
 have hu37 := Tryz.underlying37
 have HG := a_ hG
 clear hG
 have HR0_4 := a_ hr0_4
 have HC0_4 := a_ hc0_4
 clear hr0_4 hc0_4
 have HR1_4 := a_ hr1_4
 have HC1_4 := a_ hc1_4
 clear hr1_4 hc1_4
 have HB := a_ (Below.refl w.heap.size w)
 have H : (if a0_0.toList = a1_0.toList then (if a0_1.toList = a1_1.toList then (if a0_2 = a1_2 then (if a0_3 = a1_3 then (if a0_5 = a1_5 then (cambistref19_Same.j0 k ((l0_4.length : Int) != (l1_4.length : Int)) a0_0 a0_1 a0_2 a0_3 l0_4 a0_5 a1_0 a1_1 a1_2 a1_3 l1_4 a1_5) else (cambistref19_Same.j0 k true a0_0 a0_1 a0_2 a0_3 l0_4 a0_5 a1_0 a1_1 a1_2 a1_3 l1_4 a1_5)) else (cambistref19_Same.j0 k true a0_0 a0_1 a0_2 a0_3 l0_4 a0_5 a1_0 a1_1 a1_2 a1_3 l1_4 a1_5)) else (cambistref19_Same.j0 k true a0_0 a0_1 a0_2 a0_3 l0_4 a0_5 a1_0 a1_1 a1_2 a1_3 l1_4 a1_5)) else (cambistref19_Same.j0 k true a0_0 a0_1 a0_2 a0_3 l0_4 a0_5 a1_0 a1_1 a1_2 a1_3 l1_4 a1_5)) else (cambistref19_Same.j0 k true a0_0 a0_1 a0_2 a0_3 l0_4 a0_5 a1_0 a1_1 a1_2 a1_3 l1_4 a1_5)) = some r := h
 clear h
 have HC3 := a_ H
 clear H
 go_enter Tryz.func10, Tryz.ntmps10
 go_upto_region 1 with (first | ((with_reducible refine gate_dst (N := 2) rfl ?_); (try (refine gate_guard (by rfl) ?_; dsimp only)); refine box_event ?hg (N := 2) ?hd (cs := #[.string a0_0, .string a0_1, .int .u64 a0_2, .int .i64 a0_3, .slice A0_4 l0_4.length c0_4, .int .i64 a0_5]) (t := 25) ?hr ?_; (case hd => rfl); (case hg => rfl); (case hr => first | (go_simp; done) | (go_simp; rfl)); intro gb149 hg w4 hbox hb; have n0_ := a_ (below_step z45_ hb); have n1_ := a_ (hbox); have n2_ := a_ ((z32_ : w.heap.size ≤ gb149)); have n3_ := a_ ((z32_ : w.heap.size ≤ gb149)); clear HB; have HB := n0_; have BK149 := n1_; have GW149 := n2_; have GE149 := n3_; clear n0_ n1_ n2_ n3_; clear hb hbox hg) | ((with_reducible refine gate_dst (N := 3) rfl ?_); (try (refine gate_guard (by rfl) ?_; dsimp only)); refine box_event ?hg (N := 3) ?hd (cs := #[.string a1_0, .string a1_1, .int .u64 a1_2, .int .i64 a1_3, .slice A1_4 l1_4.length c1_4, .int .i64 a1_5]) (t := 25) ?hr ?_; (case hd => rfl); (case hg => rfl); (case hr => first | (go_simp; done) | (go_simp; rfl)); intro gb150 hg w5 hbox hb; have n0_ := a_ (blk_below (g := gb149) (o := .cells #[.string a0_0, .string a0_1, .int .u64 a0_2, .int .i64 a0_3, .slice A0_4 l0_4.length c0_4, .int .i64 a0_5] 25 (0, 0)) z63_ hb); have n1_ := a_ (below_step z35_ hb); have n2_ := a_ (hbox); have n3_ := a_ ((z17_ : w.heap.size ≤ gb150)); have n4_ := a_ ((z17_ : w.heap.size ≤ gb150)); have n5_ := a_ ((by rw [hg]; exact Nat.ne_of_lt (blk_lt (g := gb149) (o := .cells #[.string a0_0, .string a0_1, .int .u64 a0_2, .int .i64 a0_3, .slice A0_4 l0_4.length c0_4, .int .i64 a0_5] 25 (0, 0)) z63_) : gb149 ≠ gb150)); have n6_ := a_ ((by rw [hg]; exact Nat.ne_of_gt (blk_lt (g := gb149) (o := .cells #[.string a0_0, .string a0_1, .int .u64 a0_2, .int .i64 a0_3, .slice A0_4 l0_4.length c0_4, .int .i64 a0_5] 25 (0, 0)) z63_) : gb150 ≠ gb149)); clear BK149; clear HB; have BK149 := n0_; have HB := n1_; have BK150 := n2_; have GW150 := n3_; have GE150 := n4_; have NB149_150 := n5_; have NB150_149 := n6_; clear n0_ n1_ n2_ n3_ n4_ n5_ n6_; clear hb hbox hg))
 repeat (go_quiet (first | ((with_reducible refine gate_dst (N := 2) rfl ?_); (try (refine gate_guard (by rfl) ?_; dsimp only)); refine box_event ?hg (N := 2) ?hd (cs := #[.string a0_0, .string a0_1, .int .u64 a0_2, .int .i64 a0_3, .slice A0_4 l0_4.length c0_4, .int .i64 a0_5]) (t := 25) ?hr ?_; (case hd => rfl); (case hg => rfl); (case hr => first | (go_simp; done) | (go_simp; rfl)); intro gb149 hg w4 hbox hb; have n0_ := a_ (below_step z45_ hb); have n1_ := a_ (hbox); have n2_ := a_ ((z32_ : w.heap.size ≤ gb149)); have n3_ := a_ ((z32_ : w.heap.size ≤ gb149)); clear HB; have HB := n0_; have BK149 := n1_; have GW149 := n2_; have GE149 := n3_; clear n0_ n1_ n2_ n3_; clear hb hbox hg) | ((with_reducible refine gate_dst (N := 3) rfl ?_); (try (refine gate_guard (by rfl) ?_; dsimp only)); refine box_event ?hg (N := 3) ?hd (cs := #[.string a1_0, .string a1_1, .int .u64 a1_2, .int .i64 a1_3, .slice A1_4 l1_4.length c1_4, .int .i64 a1_5]) (t := 25) ?hr ?_; (case hd => rfl); (case hg => rfl); (case hr => first | (go_simp; done) | (go_simp; rfl)); intro gb150 hg w5 hbox hb; have n0_ := a_ (blk_below (g := gb149) (o := .cells #[.string a0_0, .string a0_1, .int .u64 a0_2, .int .i64 a0_3, .slice A0_4 l0_4.length c0_4, .int .i64 a0_5] 25 (0, 0)) z63_ hb); have n1_ := a_ (below_step z35_ hb); have n2_ := a_ (hbox); have n3_ := a_ ((z17_ : w.heap.size ≤ gb150)); have n4_ := a_ ((z17_ : w.heap.size ≤ gb150)); have n5_ := a_ ((by rw [hg]; exact Nat.ne_of_lt (blk_lt (g := gb149) (o := .cells #[.string a0_0, .string a0_1, .int .u64 a0_2, .int .i64 a0_3, .slice A0_4 l0_4.length c0_4, .int .i64 a0_5] 25 (0, 0)) z63_) : gb149 ≠ gb150)); have n6_ := a_ ((by rw [hg]; exact Nat.ne_of_gt (blk_lt (g := gb149) (o := .cells #[.string a0_0, .string a0_1, .int .u64 a0_2, .int .i64 a0_3, .slice A0_4 l0_4.length c0_4, .int .i64 a0_5] 25 (0, 0)) z63_) : gb150 ≠ gb149)); clear BK149; clear HB; have BK149 := n0_; have HB := n1_; have BK150 := n2_; have GW150 := n3_; have GE150 := n4_; have NB149_150 := n5_; have NB150_149 := n6_; clear n0_ n1_ n2_ n3_ n4_ n5_ n6_; clear hb hbox hg)); go_upto_region 1 with (first | ((with_reducible refine gate_dst (N := 2) rfl ?_); (try (refine gate_guard (by rfl) ?_; dsimp only)); refine box_event ?hg (N := 2) ?hd (cs := #[.string a0_0, .string a0_1, .int .u64 a0_2, .int .i64 a0_3, .slice A0_4 l0_4.length c0_4, .int .i64 a0_5]) (t := 25) ?hr ?_; (case hd => rfl); (case hg => rfl); (case hr => first | (go_simp; done) | (go_simp; rfl)); intro gb149 hg w4 hbox hb; have n0_ := a_ (below_step z45_ hb); have n1_ := a_ (hbox); have n2_ := a_ ((z32_ : w.heap.size ≤ gb149)); have n3_ := a_ ((z32_ : w.heap.size ≤ gb149)); clear HB; have HB := n0_; have BK149 := n1_; have GW149 := n2_; have GE149 := n3_; clear n0_ n1_ n2_ n3_; clear hb hbox hg) | ((with_reducible refine gate_dst (N := 3) rfl ?_); (try (refine gate_guard (by rfl) ?_; dsimp only)); refine box_event ?hg (N := 3) ?hd (cs := #[.string a1_0, .string a1_1, .int .u64 a1_2, .int .i64 a1_3, .slice A1_4 l1_4.length c1_4, .int .i64 a1_5]) (t := 25) ?hr ?_; (case hd => rfl); (case hg => rfl); (case hr => first | (go_simp; done) | (go_simp; rfl)); intro gb150 hg w5 hbox hb; have n0_ := a_ (blk_below (g := gb149) (o := .cells #[.string a0_0, .string a0_1, .int .u64 a0_2, .int .i64 a0_3, .slice A0_4 l0_4.length c0_4, .int .i64 a0_5] 25 (0, 0)) z63_ hb); have n1_ := a_ (below_step z35_ hb); have n2_ := a_ (hbox); have n3_ := a_ ((z17_ : w.heap.size ≤ gb150)); have n4_ := a_ ((z17_ : w.heap.size ≤ gb150)); have n5_ := a_ ((by rw [hg]; exact Nat.ne_of_lt (blk_lt (g := gb149) (o := .cells #[.string a0_0, .string a0_1, .int .u64 a0_2, .int .i64 a0_3, .slice A0_4 l0_4.length c0_4, .int .i64 a0_5] 25 (0, 0)) z63_) : gb149 ≠ gb150)); have n6_ := a_ ((by rw [hg]; exact Nat.ne_of_gt (blk_lt (g := gb149) (o := .cells #[.string a0_0, .string a0_1, .int .u64 a0_2, .int .i64 a0_3, .slice A0_4 l0_4.length c0_4, .int .i64 a0_5] 25 (0, 0)) z63_) : gb150 ≠ gb149)); clear BK149; clear HB; have BK149 := n0_; have HB := n1_; have BK150 := n2_; have GW150 := n3_; have GE150 := n4_; have NB149_150 := n5_; have NB150_149 := n6_; clear n0_ n1_ n2_ n3_ n4_ n5_ n6_; clear hb hbox hg)))
 (try simp only [Act.put, sT_, s0_, sS_])
 go_cut [47] (fun v47 wc => ∃ (kq : Nat) (x47_2 : Bool), v47 = .bool x47_2 ∧ Aside0 (cambistref19_Same.j0 kq x47_2 a0_0 a0_1 a0_2 a0_3 l0_4 a0_5 a1_0 a1_1 a1_2 a1_3 l1_4 a1_5 = some r) ∧ Aside0 (kq ≤ k) ∧ Aside0 (wc.heap[gb149]? = some (.cells #[.string a0_0, .string a0_1, .int .u64 a0_2, .int .i64 a0_3, (.slice A0_4 l0_4.length c0_4), .int .i64 a0_5] 25 (0, 0))) ∧ Aside0 (wc.heap[gb150]? = some (.cells #[.string a1_0, .string a1_1, .int .u64 a1_2, .int .i64 a1_3, (.slice A1_4 l1_4.length c1_4), .int .i64 a1_5] 25 (0, 0))) ∧ Aside0 (Below w.heap.size w wc))
 case first =>
  have H := HC3.out
  clear HC3
  by_cases c6 : a0_0.toList = a1_0.toList
  ·rw [if_pos c6] at H
   have c6b0 : (a0_0.toList == a1_0.toList) = true := beq_iff_eq.mpr c6
   have c6b1 : (a0_0.toList != a1_0.toList) = false := bne_eq_false_iff_eq.mpr c6
   clear c6
   (first | rw [c6b0] | (simp only [i64_w, i32_w]; rw [c6b0]) | skip)
   by_cases c7 : a0_1.toList = a1_1.toList
   ·rw [if_pos c7] at H
    have c7b0 : (a0_1.toList == a1_1.toList) = true := beq_iff_eq.mpr c7
    have c7b1 : (a0_1.toList != a1_1.toList) = false := bne_eq_false_iff_eq.mpr c7
    clear c7
    by_cases c8 : a0_2 = a1_2
    ·rw [if_pos c8] at H
     have c8b0 : (a0_2 == a1_2) = true := beq_iff_eq.mpr c8
     have c8b1 : (a0_2 != a1_2) = false := bne_eq_false_iff_eq.mpr c8
     clear c8
     by_cases c9 : a0_3 = a1_3
     ·rw [if_pos c9] at H
      have c9b0 : (a0_3 == a1_3) = true := beq_iff_eq.mpr c9
      have c9b1 : (a0_3 != a1_3) = false := bne_eq_false_iff_eq.mpr c9
      clear c9
      by_cases c10 : a0_5 = a1_5
      ·rw [if_pos c10] at H
       have c10b0 : (a0_5 == a1_5) = true := beq_iff_eq.mpr c10
       have c10b1 : (a0_5 != a1_5) = false := bne_eq_false_iff_eq.mpr c10
       clear c10
       have H' := a_ H
       clear H
       have hnb11 := NB149_150.out
       have hnc11 := NB150_149.out
       have hcz12_0 : w5.cell? ⟨gb149, 0, none⟩ = some (.string a0_0) := (blk_cell BK149.out 0).trans rfl
       have hcz12_1 : w5.cell? ⟨gb149, 1, none⟩ = some (.string a0_1) := (blk_cell BK149.out 1).trans rfl
       have hcz12_2 : w5.cell? ⟨gb149, 2, none⟩ = some (.int .u64 a0_2) := (blk_cell BK149.out 2).trans rfl
       have hcz12_3 : w5.cell? ⟨gb149, 3, none⟩ = some (.int .i64 a0_3) := (blk_cell BK149.out 3).trans rfl
       have hcz12_4 : w5.cell? ⟨gb149, 4, none⟩ = some (.slice A0_4 l0_4.length c0_4) := (blk_cell BK149.out 4).trans rfl
       have hcz12_5 : w5.cell? ⟨gb149, 5, none⟩ = some (.int .i64 a0_5) := (blk_cell BK149.out 5).trans rfl
       have hfz12_0 := blk_frozen BK149.out 0
       have hfz12_1 := blk_frozen BK149.out 1
       have hfz12_2 := blk_frozen BK149.out 2
       have hfz12_3 := blk_frozen BK149.out 3
       have hfz12_4 := blk_frozen BK149.out 4
       have hfz12_5 := blk_frozen BK149.out 5
       have hcz13_0 : w5.cell? ⟨gb150, 0, none⟩ = some (.string a1_0) := (blk_cell BK150.out 0).trans rfl
       have hcz13_1 : w5.cell? ⟨gb150, 1, none⟩ = some (.string a1_1) := (blk_cell BK150.out 1).trans rfl
       have hcz13_2 : w5.cell? ⟨gb150, 2, none⟩ = some (.int .u64 a1_2) := (blk_cell BK150.out 2).trans rfl
       have hcz13_3 : w5.cell? ⟨gb150, 3, none⟩ = some (.int .i64 a1_3) := (blk_cell BK150.out 3).trans rfl
       have hcz13_4 : w5.cell? ⟨gb150, 4, none⟩ = some (.slice A1_4 l1_4.length c1_4) := (blk_cell BK150.out 4).trans rfl
       have hcz13_5 : w5.cell? ⟨gb150, 5, none⟩ = some (.int .i64 a1_5) := (blk_cell BK150.out 5).trans rfl
       have hfz13_0 := blk_frozen BK150.out 0
       have hfz13_1 := blk_frozen BK150.out 1
       have hfz13_2 := blk_frozen BK150.out 2
       have hfz13_3 := blk_frozen BK150.out 3
       have hfz13_4 := blk_frozen BK150.out 4
       have hfz13_5 := blk_frozen BK150.out 5
       go_wp2
       repeat (go_quiet (fail); try go_wp2)
       go_meet
       case rel => exact ⟨_, (((l0_4.length : Int) != (l1_4.length : Int))), z80_, H', ⟨z83_⟩, ⟨z63_⟩, ⟨z64_⟩, ⟨z21_⟩⟩
      ·rw [if_neg c10] at H
       have c10b0 : (a0_5 == a1_5) = false := beq_eq_false_iff_ne.mpr c10
       have c10b1 : (a0_5 != a1_5) = true := bne_iff_ne.mpr c10
       have H' := a_ H
       clear H
       have hnb14 := NB149_150.out
       have hnc14 := NB150_149.out
       have hcz15_0 : w5.cell? ⟨gb149, 0, none⟩ = some (.string a0_0) := (blk_cell BK149.out 0).trans rfl
       have hcz15_1 : w5.cell? ⟨gb149, 1, none⟩ = some (.string a0_1) := (blk_cell BK149.out 1).trans rfl
       have hcz15_2 : w5.cell? ⟨gb149, 2, none⟩ = some (.int .u64 a0_2) := (blk_cell BK149.out 2).trans rfl
       have hcz15_3 : w5.cell? ⟨gb149, 3, none⟩ = some (.int .i64 a0_3) := (blk_cell BK149.out 3).trans rfl
       have hcz15_4 : w5.cell? ⟨gb149, 4, none⟩ = some (.slice A0_4 l0_4.length c0_4) := (blk_cell BK149.out 4).trans rfl
       have hcz15_5 : w5.cell? ⟨gb149, 5, none⟩ = some (.int .i64 a0_5) := (blk_cell BK149.out 5).trans rfl
       have hfz15_0 := blk_frozen BK149.out 0
       have hfz15_1 := blk_frozen BK149.out 1
       have hfz15_2 := blk_frozen BK149.out 2
       have hfz15_3 := blk_frozen BK149.out 3
       have hfz15_4 := blk_frozen BK149.out 4
       have hfz15_5 := blk_frozen BK149.out 5
       have hcz16_0 : w5.cell? ⟨gb150, 0, none⟩ = some (.string a1_0) := (blk_cell BK150.out 0).trans rfl
       have hcz16_1 : w5.cell? ⟨gb150, 1, none⟩ = some (.string a1_1) := (blk_cell BK150.out 1).trans rfl
       have hcz16_2 : w5.cell? ⟨gb150, 2, none⟩ = some (.int .u64 a1_2) := (blk_cell BK150.out 2).trans rfl
       have hcz16_3 : w5.cell? ⟨gb150, 3, none⟩ = some (.int .i64 a1_3) := (blk_cell BK150.out 3).trans rfl
       have hcz16_4 : w5.cell? ⟨gb150, 4, none⟩ = some (.slice A1_4 l1_4.length c1_4) := (blk_cell BK150.out 4).trans rfl
       have hcz16_5 : w5.cell? ⟨gb150, 5, none⟩ = some (.int .i64 a1_5) := (blk_cell BK150.out 5).trans rfl
       have hfz16_0 := blk_frozen BK150.out 0
       have hfz16_1 := blk_frozen BK150.out 1
       have hfz16_2 := blk_frozen BK150.out 2
       have hfz16_3 := blk_frozen BK150.out 3
       have hfz16_4 := blk_frozen BK150.out 4
       have hfz16_5 := blk_frozen BK150.out 5
       go_wp2
       repeat (go_quiet (fail); try go_wp2)
       go_meet
       case rel => exact ⟨_, (true), z80_, H', ⟨z83_⟩, ⟨z63_⟩, ⟨z64_⟩, ⟨z21_⟩⟩
     ·rw [if_neg c9] at H
      have c9b0 : (a0_3 == a1_3) = false := beq_eq_false_iff_ne.mpr c9
      have c9b1 : (a0_3 != a1_3) = true := bne_iff_ne.mpr c9
      have H' := a_ H
      clear H
      have hnb17 := NB149_150.out
      have hnc17 := NB150_149.out
      have hcz18_0 : w5.cell? ⟨gb149, 0, none⟩ = some (.string a0_0) := (blk_cell BK149.out 0).trans rfl
      have hcz18_1 : w5.cell? ⟨gb149, 1, none⟩ = some (.string a0_1) := (blk_cell BK149.out 1).trans rfl
      have hcz18_2 : w5.cell? ⟨gb149, 2, none⟩ = some (.int .u64 a0_2) := (blk_cell BK149.out 2).trans rfl
      have hcz18_3 : w5.cell? ⟨gb149, 3, none⟩ = some (.int .i64 a0_3) := (blk_cell BK149.out 3).trans rfl
      have hcz18_4 : w5.cell? ⟨gb149, 4, none⟩ = some (.slice A0_4 l0_4.length c0_4) := (blk_cell BK149.out 4).trans rfl
      have hcz18_5 : w5.cell? ⟨gb149, 5, none⟩ = some (.int .i64 a0_5) := (blk_cell BK149.out 5).trans rfl
      have hfz18_0 := blk_frozen BK149.out 0
      have hfz18_1 := blk_frozen BK149.out 1
      have hfz18_2 := blk_frozen BK149.out 2
      have hfz18_3 := blk_frozen BK149.out 3
      have hfz18_4 := blk_frozen BK149.out 4
      have hfz18_5 := blk_frozen BK149.out 5
      have hcz19_0 : w5.cell? ⟨gb150, 0, none⟩ = some (.string a1_0) := (blk_cell BK150.out 0).trans rfl
      have hcz19_1 : w5.cell? ⟨gb150, 1, none⟩ = some (.string a1_1) := (blk_cell BK150.out 1).trans rfl
      have hcz19_2 : w5.cell? ⟨gb150, 2, none⟩ = some (.int .u64 a1_2) := (blk_cell BK150.out 2).trans rfl
      have hcz19_3 : w5.cell? ⟨gb150, 3, none⟩ = some (.int .i64 a1_3) := (blk_cell BK150.out 3).trans rfl
      have hcz19_4 : w5.cell? ⟨gb150, 4, none⟩ = some (.slice A1_4 l1_4.length c1_4) := (blk_cell BK150.out 4).trans rfl
      have hcz19_5 : w5.cell? ⟨gb150, 5, none⟩ = some (.int .i64 a1_5) := (blk_cell BK150.out 5).trans rfl
      have hfz19_0 := blk_frozen BK150.out 0
      have hfz19_1 := blk_frozen BK150.out 1
      have hfz19_2 := blk_frozen BK150.out 2
      have hfz19_3 := blk_frozen BK150.out 3
      have hfz19_4 := blk_frozen BK150.out 4
      have hfz19_5 := blk_frozen BK150.out 5
      go_wp2
      repeat (go_quiet (fail); try go_wp2)
      go_meet
      case rel => exact ⟨_, (true), z80_, H', ⟨z83_⟩, ⟨z63_⟩, ⟨z64_⟩, ⟨z21_⟩⟩
    ·rw [if_neg c8] at H
     have c8b0 : (a0_2 == a1_2) = false := beq_eq_false_iff_ne.mpr c8
     have c8b1 : (a0_2 != a1_2) = true := bne_iff_ne.mpr c8
     have H' := a_ H
     clear H
     have hnb20 := NB149_150.out
     have hnc20 := NB150_149.out
     have hcz21_0 : w5.cell? ⟨gb149, 0, none⟩ = some (.string a0_0) := (blk_cell BK149.out 0).trans rfl
     have hcz21_1 : w5.cell? ⟨gb149, 1, none⟩ = some (.string a0_1) := (blk_cell BK149.out 1).trans rfl
     have hcz21_2 : w5.cell? ⟨gb149, 2, none⟩ = some (.int .u64 a0_2) := (blk_cell BK149.out 2).trans rfl
     have hcz21_3 : w5.cell? ⟨gb149, 3, none⟩ = some (.int .i64 a0_3) := (blk_cell BK149.out 3).trans rfl
     have hcz21_4 : w5.cell? ⟨gb149, 4, none⟩ = some (.slice A0_4 l0_4.length c0_4) := (blk_cell BK149.out 4).trans rfl
     have hcz21_5 : w5.cell? ⟨gb149, 5, none⟩ = some (.int .i64 a0_5) := (blk_cell BK149.out 5).trans rfl
     have hfz21_0 := blk_frozen BK149.out 0
     have hfz21_1 := blk_frozen BK149.out 1
     have hfz21_2 := blk_frozen BK149.out 2
     have hfz21_3 := blk_frozen BK149.out 3
     have hfz21_4 := blk_frozen BK149.out 4
     have hfz21_5 := blk_frozen BK149.out 5
     have hcz22_0 : w5.cell? ⟨gb150, 0, none⟩ = some (.string a1_0) := (blk_cell BK150.out 0).trans rfl
     have hcz22_1 : w5.cell? ⟨gb150, 1, none⟩ = some (.string a1_1) := (blk_cell BK150.out 1).trans rfl
     have hcz22_2 : w5.cell? ⟨gb150, 2, none⟩ = some (.int .u64 a1_2) := (blk_cell BK150.out 2).trans rfl
     have hcz22_3 : w5.cell? ⟨gb150, 3, none⟩ = some (.int .i64 a1_3) := (blk_cell BK150.out 3).trans rfl
     have hcz22_4 : w5.cell? ⟨gb150, 4, none⟩ = some (.slice A1_4 l1_4.length c1_4) := (blk_cell BK150.out 4).trans rfl
     have hcz22_5 : w5.cell? ⟨gb150, 5, none⟩ = some (.int .i64 a1_5) := (blk_cell BK150.out 5).trans rfl
     have hfz22_0 := blk_frozen BK150.out 0
     have hfz22_1 := blk_frozen BK150.out 1
     have hfz22_2 := blk_frozen BK150.out 2
     have hfz22_3 := blk_frozen BK150.out 3
     have hfz22_4 := blk_frozen BK150.out 4
     have hfz22_5 := blk_frozen BK150.out 5
     go_wp2
     repeat (go_quiet (fail); try go_wp2)
     go_meet
     case rel => exact ⟨_, (true), z80_, H', ⟨z83_⟩, ⟨z63_⟩, ⟨z64_⟩, ⟨z21_⟩⟩
   ·rw [if_neg c7] at H
    have c7b0 : (a0_1.toList == a1_1.toList) = false := beq_eq_false_iff_ne.mpr c7
    have c7b1 : (a0_1.toList != a1_1.toList) = true := bne_iff_ne.mpr c7
    have H' := a_ H
    clear H
    have hnb23 := NB149_150.out
    have hnc23 := NB150_149.out
    have hcz24_0 : w5.cell? ⟨gb149, 0, none⟩ = some (.string a0_0) := (blk_cell BK149.out 0).trans rfl
    have hcz24_1 : w5.cell? ⟨gb149, 1, none⟩ = some (.string a0_1) := (blk_cell BK149.out 1).trans rfl
    have hcz24_2 : w5.cell? ⟨gb149, 2, none⟩ = some (.int .u64 a0_2) := (blk_cell BK149.out 2).trans rfl
    have hcz24_3 : w5.cell? ⟨gb149, 3, none⟩ = some (.int .i64 a0_3) := (blk_cell BK149.out 3).trans rfl
    have hcz24_4 : w5.cell? ⟨gb149, 4, none⟩ = some (.slice A0_4 l0_4.length c0_4) := (blk_cell BK149.out 4).trans rfl
    have hcz24_5 : w5.cell? ⟨gb149, 5, none⟩ = some (.int .i64 a0_5) := (blk_cell BK149.out 5).trans rfl
    have hfz24_0 := blk_frozen BK149.out 0
    have hfz24_1 := blk_frozen BK149.out 1
    have hfz24_2 := blk_frozen BK149.out 2
    have hfz24_3 := blk_frozen BK149.out 3
    have hfz24_4 := blk_frozen BK149.out 4
    have hfz24_5 := blk_frozen BK149.out 5
    have hcz25_0 : w5.cell? ⟨gb150, 0, none⟩ = some (.string a1_0) := (blk_cell BK150.out 0).trans rfl
    have hcz25_1 : w5.cell? ⟨gb150, 1, none⟩ = some (.string a1_1) := (blk_cell BK150.out 1).trans rfl
    have hcz25_2 : w5.cell? ⟨gb150, 2, none⟩ = some (.int .u64 a1_2) := (blk_cell BK150.out 2).trans rfl
    have hcz25_3 : w5.cell? ⟨gb150, 3, none⟩ = some (.int .i64 a1_3) := (blk_cell BK150.out 3).trans rfl
    have hcz25_4 : w5.cell? ⟨gb150, 4, none⟩ = some (.slice A1_4 l1_4.length c1_4) := (blk_cell BK150.out 4).trans rfl
    have hcz25_5 : w5.cell? ⟨gb150, 5, none⟩ = some (.int .i64 a1_5) := (blk_cell BK150.out 5).trans rfl
    have hfz25_0 := blk_frozen BK150.out 0
    have hfz25_1 := blk_frozen BK150.out 1
    have hfz25_2 := blk_frozen BK150.out 2
    have hfz25_3 := blk_frozen BK150.out 3
    have hfz25_4 := blk_frozen BK150.out 4
    have hfz25_5 := blk_frozen BK150.out 5
    go_wp2
    repeat (go_quiet (fail); try go_wp2)
    go_meet
    case rel => exact ⟨_, (true), z80_, H', ⟨z83_⟩, ⟨z63_⟩, ⟨z64_⟩, ⟨z21_⟩⟩
  ·rw [if_neg c6] at H
   have c6b0 : (a0_0.toList == a1_0.toList) = false := beq_eq_false_iff_ne.mpr c6
   have c6b1 : (a0_0.toList != a1_0.toList) = true := bne_iff_ne.mpr c6
   (first | rw [c6b0] | (simp only [i64_w, i32_w]; rw [c6b0]) | skip)
   have H' := a_ H
   clear H
   have hnb26 := NB149_150.out
   have hnc26 := NB150_149.out
   have hcz27_0 : w5.cell? ⟨gb149, 0, none⟩ = some (.string a0_0) := (blk_cell BK149.out 0).trans rfl
   have hcz27_1 : w5.cell? ⟨gb149, 1, none⟩ = some (.string a0_1) := (blk_cell BK149.out 1).trans rfl
   have hcz27_2 : w5.cell? ⟨gb149, 2, none⟩ = some (.int .u64 a0_2) := (blk_cell BK149.out 2).trans rfl
   have hcz27_3 : w5.cell? ⟨gb149, 3, none⟩ = some (.int .i64 a0_3) := (blk_cell BK149.out 3).trans rfl
   have hcz27_4 : w5.cell? ⟨gb149, 4, none⟩ = some (.slice A0_4 l0_4.length c0_4) := (blk_cell BK149.out 4).trans rfl
   have hcz27_5 : w5.cell? ⟨gb149, 5, none⟩ = some (.int .i64 a0_5) := (blk_cell BK149.out 5).trans rfl
   have hfz27_0 := blk_frozen BK149.out 0
   have hfz27_1 := blk_frozen BK149.out 1
   have hfz27_2 := blk_frozen BK149.out 2
   have hfz27_3 := blk_frozen BK149.out 3
   have hfz27_4 := blk_frozen BK149.out 4
   have hfz27_5 := blk_frozen BK149.out 5
   have hcz28_0 : w5.cell? ⟨gb150, 0, none⟩ = some (.string a1_0) := (blk_cell BK150.out 0).trans rfl
   have hcz28_1 : w5.cell? ⟨gb150, 1, none⟩ = some (.string a1_1) := (blk_cell BK150.out 1).trans rfl
   have hcz28_2 : w5.cell? ⟨gb150, 2, none⟩ = some (.int .u64 a1_2) := (blk_cell BK150.out 2).trans rfl
   have hcz28_3 : w5.cell? ⟨gb150, 3, none⟩ = some (.int .i64 a1_3) := (blk_cell BK150.out 3).trans rfl
   have hcz28_4 : w5.cell? ⟨gb150, 4, none⟩ = some (.slice A1_4 l1_4.length c1_4) := (blk_cell BK150.out 4).trans rfl
   have hcz28_5 : w5.cell? ⟨gb150, 5, none⟩ = some (.int .i64 a1_5) := (blk_cell BK150.out 5).trans rfl
   have hfz28_0 := blk_frozen BK150.out 0
   have hfz28_1 := blk_frozen BK150.out 1
   have hfz28_2 := blk_frozen BK150.out 2
   have hfz28_3 := blk_frozen BK150.out 3
   have hfz28_4 := blk_frozen BK150.out 4
   have hfz28_5 := blk_frozen BK150.out 5
   go_wp2
   repeat (go_quiet (fail); try go_wp2)
   go_meet
   case rel => exact ⟨_, (true), z80_, H', ⟨z83_⟩, ⟨z63_⟩, ⟨z64_⟩, ⟨z21_⟩⟩
 case rest =>
  clear HC3
  try clear c1
  try clear c2
  try clear p2
  try clear c6
  try clear c6b0
  try clear c6b1
  try clear c7
  try clear c7b0
  try clear c7b1
  try clear c8
  try clear c8b0
  try clear c8b1
  try clear c9
  try clear c9b0
  try clear c9b1
  try clear c10
  try clear c10b0
  try clear c10b1
  try clear c11
  try clear c14
  try clear c17
  try clear c20
  try clear c23
  try clear c26
  try clear hcz12_0
  try clear hcz12_1
  try clear hcz12_2
  try clear hcz12_3
  try clear hcz12_4
  try clear hcz12_5
  try clear hcz13_0
  try clear hcz13_1
  try clear hcz13_2
  try clear hcz13_3
  try clear hcz13_4
  try clear hcz13_5
  try clear hcz15_0
  try clear hcz15_1
  try clear hcz15_2
  try clear hcz15_3
  try clear hcz15_4
  try clear hcz15_5
  try clear hcz16_0
  try clear hcz16_1
  try clear hcz16_2
  try clear hcz16_3
  try clear hcz16_4
  try clear hcz16_5
  try clear hcz18_0
  try clear hcz18_1
  try clear hcz18_2
  try clear hcz18_3
  try clear hcz18_4
  try clear hcz18_5
  try clear hcz19_0
  try clear hcz19_1
  try clear hcz19_2
  try clear hcz19_3
  try clear hcz19_4
  try clear hcz19_5
  try clear hcz21_0
  try clear hcz21_1
  try clear hcz21_2
  try clear hcz21_3
  try clear hcz21_4
  try clear hcz21_5
  try clear hcz22_0
  try clear hcz22_1
  try clear hcz22_2
  try clear hcz22_3
  try clear hcz22_4
  try clear hcz22_5
  try clear hcz24_0
  try clear hcz24_1
  try clear hcz24_2
  try clear hcz24_3
  try clear hcz24_4
  try clear hcz24_5
  try clear hcz25_0
  try clear hcz25_1
  try clear hcz25_2
  try clear hcz25_3
  try clear hcz25_4
  try clear hcz25_5
  try clear hcz27_0
  try clear hcz27_1
  try clear hcz27_2
  try clear hcz27_3
  try clear hcz27_4
  try clear hcz27_5
  try clear hcz28_0
  try clear hcz28_1
  try clear hcz28_2
  try clear hcz28_3
  try clear hcz28_4
  try clear hcz28_5
  try clear hfz12_0
  try clear hfz12_1
  try clear hfz12_2
  try clear hfz12_3
  try clear hfz12_4
  try clear hfz12_5
  try clear hfz13_0
  try clear hfz13_1
  try clear hfz13_2
  try clear hfz13_3
  try clear hfz13_4
  try clear hfz13_5
  try clear hfz15_0
  try clear hfz15_1
  try clear hfz15_2
  try clear hfz15_3
  try clear hfz15_4
  try clear hfz15_5
  try clear hfz16_0
  try clear hfz16_1
  try clear hfz16_2
  try clear hfz16_3
  try clear hfz16_4
  try clear hfz16_5
  try clear hfz18_0
  try clear hfz18_1
  try clear hfz18_2
  try clear hfz18_3
  try clear hfz18_4
  try clear hfz18_5
  try clear hfz19_0
  try clear hfz19_1
  try clear hfz19_2
  try clear hfz19_3
  try clear hfz19_4
  try clear hfz19_5
  try clear hfz21_0
  try clear hfz21_1
  try clear hfz21_2
  try clear hfz21_3
  try clear hfz21_4
  try clear hfz21_5
  try clear hfz22_0
  try clear hfz22_1
  try clear hfz22_2
  try clear hfz22_3
  try clear hfz22_4
  try clear hfz22_5
  try clear hfz24_0
  try clear hfz24_1
  try clear hfz24_2
  try clear hfz24_3
  try clear hfz24_4
  try clear hfz24_5
  try clear hfz25_0
  try clear hfz25_1
  try clear hfz25_2
  try clear hfz25_3
  try clear hfz25_4
  try clear hfz25_5
  try clear hfz27_0
  try clear hfz27_1
  try clear hfz27_2
  try clear hfz27_3
  try clear hfz27_4
  try clear hfz27_5
  try clear hfz28_0
  try clear hfz28_1
  try clear hfz28_2
  try clear hfz28_3
  try clear hfz28_4
  try clear hfz28_5
  obtain ⟨kq, x47_2, rfl, HA, HJ2, BK149, BK150, HB⟩ := hcut
  cases kq with
  | zero => exact absurd HA.out (by simp [cambistref19_Same.j0])
  | succ kj2 =>
   have H := HA.out
   clear HA
   simp only [cambistref19_Same.j0] at H
   by_cases c29 : x47_2 = true
   ·subst c29
    have H1 : (some false) = some r := by rw [if_pos rfl] at H; exact H
    clear H
    have H := H1
    clear H1
    obtain rfl := Option.some.inj H
    go_wp2
    repeat (go_quiet (fail); try go_wp2)
    go_ret
    exact ⟨z76_, z21_⟩
   ·replace c29 := Bool.eq_false_iff.mpr c29
    subst c29
    have H1 : (cambistref19_Same.l0 kj2 0 a0_0 a0_1 a0_2 a0_3 l0_4 a0_5 a1_0 a1_1 a1_2 a1_3 l1_4 a1_5) = some r := by rw [if_neg (show ¬ (false = true) by decide)] at H; exact H
    clear H
    have H := H1
    clear H1
    have H' := a_ H
    clear H
    go_wp2
    repeat (go_quiet (fail); try go_wp2)
    go_loopg [5] kj2 (fun kq v5 w' => ∃ (x5_2 : Int), v5 = .int .i64 x5_2 ∧ Aside0 (cambistref19_Same.l0 kq x5_2 a0_0 a0_1 a0_2 a0_3 l0_4 a0_5 a1_0 a1_1 a1_2 a1_3 l1_4 a1_5 = some r) ∧ Aside0 (kq ≤ kj2) ∧ Aside0 (w'.heap[gb149]? = some (.cells #[.string a0_0, .string a0_1, .int .u64 a0_2, .int .i64 a0_3, (.slice A0_4 l0_4.length c0_4), .int .i64 a0_5] 25 (0, 0))) ∧ Aside0 (w'.heap[gb150]? = some (.cells #[.string a1_0, .string a1_1, .int .u64 a1_2, .int .i64 a1_3, (.slice A1_4 l1_4.length c1_4), .int .i64 a1_5] 25 (0, 0))) ∧ Aside0 (Below w.heap.size w w'))
    case atStart => exact ⟨(0), z80_, H', ⟨Nat.le_refl _⟩, ⟨z63_⟩, ⟨z64_⟩, ⟨z21_⟩⟩
    case round =>
     clear H'
     try clear c1
     try clear c2
     try clear p2
     try clear c6
     try clear c6b0
     try clear c6b1
     try clear c7
     try clear c7b0
     try clear c7b1
     try clear c8
     try clear c8b0
     try clear c8b1
     try clear c9
     try clear c9b0
     try clear c9b1
     try clear c10
     try clear c10b0
     try clear c10b1
     try clear c11
     try clear c14
     try clear c17
     try clear c20
     try clear c23
     try clear c26
     try clear c29
     try clear hcz12_0
     try clear hcz12_1
     try clear hcz12_2
     try clear hcz12_3
     try clear hcz12_4
     try clear hcz12_5
     try clear hcz13_0
     try clear hcz13_1
     try clear hcz13_2
     try clear hcz13_3
     try clear hcz13_4
     try clear hcz13_5
     try clear hcz15_0
     try clear hcz15_1
     try clear hcz15_2
     try clear hcz15_3
     try clear hcz15_4
     try clear hcz15_5
     try clear hcz16_0
     try clear hcz16_1
     try clear hcz16_2
     try clear hcz16_3
     try clear hcz16_4
     try clear hcz16_5
     try clear hcz18_0
     try clear hcz18_1
     try clear hcz18_2
     try clear hcz18_3
     try clear hcz18_4
     try clear hcz18_5
     try clear hcz19_0
     try clear hcz19_1
     try clear hcz19_2
     try clear hcz19_3
     try clear hcz19_4
     try clear hcz19_5
     try clear hcz21_0
     try clear hcz21_1
     try clear hcz21_2
     try clear hcz21_3
     try clear hcz21_4
     try clear hcz21_5
     try clear hcz22_0
     try clear hcz22_1
     try clear hcz22_2
     try clear hcz22_3
     try clear hcz22_4
     try clear hcz22_5
     try clear hcz24_0
     try clear hcz24_1
     try clear hcz24_2
     try clear hcz24_3
     try clear hcz24_4
     try clear hcz24_5
     try clear hcz25_0
     try clear hcz25_1
     try clear hcz25_2
     try clear hcz25_3
     try clear hcz25_4
     try clear hcz25_5
     try clear hcz27_0
     try clear hcz27_1
     try clear hcz27_2
     try clear hcz27_3
     try clear hcz27_4
     try clear hcz27_5
     try clear hcz28_0
     try clear hcz28_1
     try clear hcz28_2
     try clear hcz28_3
     try clear hcz28_4
     try clear hcz28_5
     try clear hfz12_0
     try clear hfz12_1
     try clear hfz12_2
     try clear hfz12_3
     try clear hfz12_4
     try clear hfz12_5
     try clear hfz13_0
     try clear hfz13_1
     try clear hfz13_2
     try clear hfz13_3
     try clear hfz13_4
     try clear hfz13_5
     try clear hfz15_0
     try clear hfz15_1
     try clear hfz15_2
     try clear hfz15_3
     try clear hfz15_4
     try clear hfz15_5
     try clear hfz16_0
     try clear hfz16_1
     try clear hfz16_2
     try clear hfz16_3
     try clear hfz16_4
     try clear hfz16_5
     try clear hfz18_0
     try clear hfz18_1
     try clear hfz18_2
     try clear hfz18_3
     try clear hfz18_4
     try clear hfz18_5
     try clear hfz19_0
     try clear hfz19_1
     try clear hfz19_2
     try clear hfz19_3
     try clear hfz19_4
     try clear hfz19_5
     try clear hfz21_0
     try clear hfz21_1
     try clear hfz21_2
     try clear hfz21_3
     try clear hfz21_4
     try clear hfz21_5
     try clear hfz22_0
     try clear hfz22_1
     try clear hfz22_2
     try clear hfz22_3
     try clear hfz22_4
     try clear hfz22_5
     try clear hfz24_0
     try clear hfz24_1
     try clear hfz24_2
     try clear hfz24_3
     try clear hfz24_4
     try clear hfz24_5
     try clear hfz25_0
     try clear hfz25_1
     try clear hfz25_2
     try clear hfz25_3
     try clear hfz25_4
     try clear hfz25_5
     try clear hfz27_0
     try clear hfz27_1
     try clear hfz27_2
     try clear hfz27_3
     try clear hfz27_4
     try clear hfz27_5
     try clear hfz28_0
     try clear hfz28_1
     try clear hfz28_2
     try clear hfz28_3
     try clear hfz28_4
     try clear hfz28_5
     try clear p2
     obtain ⟨x5_2, rfl, HA, HK2, BK149, BK150, HB⟩ := hrel
     cases gk with
     | zero => exact absurd HA.out (by simp [cambistref19_Same.l0])
     | succ k2 =>
      have H := HA.out
      clear HA
      simp only [cambistref19_Same.l0] at H
      by_cases c30 : x5_2 < (l0_4.length : Int)
      ·rw [if_pos c30] at H
       have c30b0 : decide (x5_2 < (l0_4.length : Int)) = true := decide_eq_true c30
       clear c30
       by_cases c31 : 0 ≤ x5_2
       ·rw [if_pos c31] at H
        have c31b0 : decide (0 ≤ x5_2) = true := decide_eq_true c31
        clear c31
        by_cases c32 : x5_2 < (l1_4.length : Int)
        ·rw [if_pos c32] at H
         have c32b0 : decide (x5_2 < (l1_4.length : Int)) = true := decide_eq_true c32
         clear c32
         by_cases c33 : (!(((rd_T37 l0_4 x5_2).f0) == ((rd_T37 l1_4 x5_2).f0)) || (!((((rd_T37 l0_4 x5_2).f1).toList) == (((rd_T37 l1_4 x5_2).f1).toList)) || (!(((rd_T37 l0_4 x5_2).f2) == ((rd_T37 l1_4 x5_2).f2))))) = true
         ·rw [if_pos c33] at H
          have c33b0 : (!(((rd_T37 l0_4 x5_2).f0) == ((rd_T37 l1_4 x5_2).f0)) || (!((((rd_T37 l0_4 x5_2).f1).toList) == (((rd_T37 l1_4 x5_2).f1).toList)) || (!(((rd_T37 l0_4 x5_2).f2) == ((rd_T37 l1_4 x5_2).f2))))) = true := c33
          clear c33
          obtain rfl := Option.some.inj H
          have hnb34 := NB149_150.out
          have hnc34 := NB150_149.out
          have hcz35_0 : wr.cell? ⟨gb149, 0, none⟩ = some (.string a0_0) := (blk_cell BK149.out 0).trans rfl
          have hcz35_1 : wr.cell? ⟨gb149, 1, none⟩ = some (.string a0_1) := (blk_cell BK149.out 1).trans rfl
          have hcz35_2 : wr.cell? ⟨gb149, 2, none⟩ = some (.int .u64 a0_2) := (blk_cell BK149.out 2).trans rfl
          have hcz35_3 : wr.cell? ⟨gb149, 3, none⟩ = some (.int .i64 a0_3) := (blk_cell BK149.out 3).trans rfl
          have hcz35_4 : wr.cell? ⟨gb149, 4, none⟩ = some (.slice A0_4 l0_4.length c0_4) := (blk_cell BK149.out 4).trans rfl
          have hcz35_5 : wr.cell? ⟨gb149, 5, none⟩ = some (.int .i64 a0_5) := (blk_cell BK149.out 5).trans rfl
          have hfz35_0 := blk_frozen BK149.out 0
          have hfz35_1 := blk_frozen BK149.out 1
          have hfz35_2 := blk_frozen BK149.out 2
          have hfz35_3 := blk_frozen BK149.out 3
          have hfz35_4 := blk_frozen BK149.out 4
          have hfz35_5 := blk_frozen BK149.out 5
          have p151 : 0 ≤ (x5_2 : Int) := of_decide_eq_true z79_
          have q151 : x5_2 < (l0_4.length : Int) := of_decide_eq_true z79_
          obtain ⟨ad151, e151, hx151_0, hx151_1, hx151_2⟩ := at_T37 HR0_4.out x5_2 p151 q151
          cases e151
          replace hx151_0 := (HB.out.cell (World.block_lt_of_cell? w _ hx151_0)).trans hx151_0
          replace hx151_1 := (HB.out.cell (World.block_lt_of_cell? w _ hx151_1)).trans hx151_1
          replace hx151_2 := (HB.out.cell (World.block_lt_of_cell? w _ hx151_2)).trans hx151_2
          replace p151 := eq_true p151
          replace q151 := eq_true q151
          have hcz36_0 : wr.cell? ⟨gb150, 0, none⟩ = some (.string a1_0) := (blk_cell BK150.out 0).trans rfl
          have hcz36_1 : wr.cell? ⟨gb150, 1, none⟩ = some (.string a1_1) := (blk_cell BK150.out 1).trans rfl
          have hcz36_2 : wr.cell? ⟨gb150, 2, none⟩ = some (.int .u64 a1_2) := (blk_cell BK150.out 2).trans rfl
          have hcz36_3 : wr.cell? ⟨gb150, 3, none⟩ = some (.int .i64 a1_3) := (blk_cell BK150.out 3).trans rfl
          have hcz36_4 : wr.cell? ⟨gb150, 4, none⟩ = some (.slice A1_4 l1_4.length c1_4) := (blk_cell BK150.out 4).trans rfl
          have hcz36_5 : wr.cell? ⟨gb150, 5, none⟩ = some (.int .i64 a1_5) := (blk_cell BK150.out 5).trans rfl
          have hfz36_0 := blk_frozen BK150.out 0
          have hfz36_1 := blk_frozen BK150.out 1
          have hfz36_2 := blk_frozen BK150.out 2
          have hfz36_3 := blk_frozen BK150.out 3
          have hfz36_4 := blk_frozen BK150.out 4
          have hfz36_5 := blk_frozen BK150.out 5
          have p152 : 0 ≤ (x5_2 : Int) := of_decide_eq_true z79_
          have q152 : x5_2 < (l1_4.length : Int) := of_decide_eq_true z79_
          obtain ⟨ad152, e152, hx152_0, hx152_1, hx152_2⟩ := at_T37 HR1_4.out x5_2 p152 q152
          cases e152
          replace hx152_0 := (HB.out.cell (World.block_lt_of_cell? w _ hx152_0)).trans hx152_0
          replace hx152_1 := (HB.out.cell (World.block_lt_of_cell? w _ hx152_1)).trans hx152_1
          replace hx152_2 := (HB.out.cell (World.block_lt_of_cell? w _ hx152_2)).trans hx152_2
          replace p152 := eq_true p152
          replace q152 := eq_true q152
          go_wp2
          repeat (go_quiet (fail); try go_wp2)
          go_ret
          exact ⟨z76_, z21_⟩
         ·rw [if_neg c33] at H
          have c33b0 : (!(((rd_T37 l0_4 x5_2).f0) == ((rd_T37 l1_4 x5_2).f0)) || (!((((rd_T37 l0_4 x5_2).f1).toList) == (((rd_T37 l1_4 x5_2).f1).toList)) || (!(((rd_T37 l0_4 x5_2).f2) == ((rd_T37 l1_4 x5_2).f2))))) = false := by simpa using c33
          clear c33
          have H' := a_ H
          clear H
          have hnb37 := NB149_150.out
          have hnc37 := NB150_149.out
          have hcz38_0 : wr.cell? ⟨gb149, 0, none⟩ = some (.string a0_0) := (blk_cell BK149.out 0).trans rfl
          have hcz38_1 : wr.cell? ⟨gb149, 1, none⟩ = some (.string a0_1) := (blk_cell BK149.out 1).trans rfl
          have hcz38_2 : wr.cell? ⟨gb149, 2, none⟩ = some (.int .u64 a0_2) := (blk_cell BK149.out 2).trans rfl
          have hcz38_3 : wr.cell? ⟨gb149, 3, none⟩ = some (.int .i64 a0_3) := (blk_cell BK149.out 3).trans rfl
          have hcz38_4 : wr.cell? ⟨gb149, 4, none⟩ = some (.slice A0_4 l0_4.length c0_4) := (blk_cell BK149.out 4).trans rfl
          have hcz38_5 : wr.cell? ⟨gb149, 5, none⟩ = some (.int .i64 a0_5) := (blk_cell BK149.out 5).trans rfl
          have hfz38_0 := blk_frozen BK149.out 0
          have hfz38_1 := blk_frozen BK149.out 1
          have hfz38_2 := blk_frozen BK149.out 2
          have hfz38_3 := blk_frozen BK149.out 3
          have hfz38_4 := blk_frozen BK149.out 4
          have hfz38_5 := blk_frozen BK149.out 5
          have p151 : 0 ≤ (x5_2 : Int) := of_decide_eq_true z79_
          have q151 : x5_2 < (l0_4.length : Int) := of_decide_eq_true z79_
          obtain ⟨ad151, e151, hx151_0, hx151_1, hx151_2⟩ := at_T37 HR0_4.out x5_2 p151 q151
          cases e151
          replace hx151_0 := (HB.out.cell (World.block_lt_of_cell? w _ hx151_0)).trans hx151_0
          replace hx151_1 := (HB.out.cell (World.block_lt_of_cell? w _ hx151_1)).trans hx151_1
          replace hx151_2 := (HB.out.cell (World.block_lt_of_cell? w _ hx151_2)).trans hx151_2
          replace p151 := eq_true p151
          replace q151 := eq_true q151
          have hcz39_0 : wr.cell? ⟨gb150, 0, none⟩ = some (.string a1_0) := (blk_cell BK150.out 0).trans rfl
          have hcz39_1 : wr.cell? ⟨gb150, 1, none⟩ = some (.string a1_1) := (blk_cell BK150.out 1).trans rfl
          have hcz39_2 : wr.cell? ⟨gb150, 2, none⟩ = some (.int .u64 a1_2) := (blk_cell BK150.out 2).trans rfl
          have hcz39_3 : wr.cell? ⟨gb150, 3, none⟩ = some (.int .i64 a1_3) := (blk_cell BK150.out 3).trans rfl
          have hcz39_4 : wr.cell? ⟨gb150, 4, none⟩ = some (.slice A1_4 l1_4.length c1_4) := (blk_cell BK150.out 4).trans rfl
          have hcz39_5 : wr.cell? ⟨gb150, 5, none⟩ = some (.int .i64 a1_5) := (blk_cell BK150.out 5).trans rfl
          have hfz39_0 := blk_frozen BK150.out 0
          have hfz39_1 := blk_frozen BK150.out 1
          have hfz39_2 := blk_frozen BK150.out 2
          have hfz39_3 := blk_frozen BK150.out 3
          have hfz39_4 := blk_frozen BK150.out 4
          have hfz39_5 := blk_frozen BK150.out 5
          have p152 : 0 ≤ (x5_2 : Int) := of_decide_eq_true z79_
          have q152 : x5_2 < (l1_4.length : Int) := of_decide_eq_true z79_
          obtain ⟨ad152, e152, hx152_0, hx152_1, hx152_2⟩ := at_T37 HR1_4.out x5_2 p152 q152
          cases e152
          replace hx152_0 := (HB.out.cell (World.block_lt_of_cell? w _ hx152_0)).trans hx152_0
          replace hx152_1 := (HB.out.cell (World.block_lt_of_cell? w _ hx152_1)).trans hx152_1
          replace hx152_2 := (HB.out.cell (World.block_lt_of_cell? w _ hx152_2)).trans hx152_2
          replace p152 := eq_true p152
          replace q152 := eq_true q152
          go_wp2
          repeat (go_quiet (fail); try go_wp2)
          go_roundg k2
          case measure => have := HJ2.out; have := HK2.out; omega
          case rel => exact ⟨(wrap64 (x5_2 + 1)), z80_, H', ⟨by have := HJ2.out; have := HK2.out; omega⟩, ⟨z63_⟩, ⟨z64_⟩, ⟨z21_⟩⟩
        ·rw [if_neg c32] at H
         exact absurd H (by simp)
       ·rw [if_neg c31] at H
        exact absurd H (by simp)
      ·rw [if_neg c30] at H
       have c30b0 : decide (x5_2 < (l0_4.length : Int)) = false := decide_eq_false c30
       clear c30
       obtain rfl := Option.some.inj H
       have hnb40 := NB149_150.out
       have hnc40 := NB150_149.out
       have hcz41_0 : wr.cell? ⟨gb149, 0, none⟩ = some (.string a0_0) := (blk_cell BK149.out 0).trans rfl
       have hcz41_1 : wr.cell? ⟨gb149, 1, none⟩ = some (.string a0_1) := (blk_cell BK149.out 1).trans rfl
       have hcz41_2 : wr.cell? ⟨gb149, 2, none⟩ = some (.int .u64 a0_2) := (blk_cell BK149.out 2).trans rfl
       have hcz41_3 : wr.cell? ⟨gb149, 3, none⟩ = some (.int .i64 a0_3) := (blk_cell BK149.out 3).trans rfl
       have hcz41_4 : wr.cell? ⟨gb149, 4, none⟩ = some (.slice A0_4 l0_4.length c0_4) := (blk_cell BK149.out 4).trans rfl
       have hcz41_5 : wr.cell? ⟨gb149, 5, none⟩ = some (.int .i64 a0_5) := (blk_cell BK149.out 5).trans rfl
       have hfz41_0 := blk_frozen BK149.out 0
       have hfz41_1 := blk_frozen BK149.out 1
       have hfz41_2 := blk_frozen BK149.out 2
       have hfz41_3 := blk_frozen BK149.out 3
       have hfz41_4 := blk_frozen BK149.out 4
       have hfz41_5 := blk_frozen BK149.out 5
       go_wp2
       repeat (go_quiet (fail); try go_wp2)
       go_ret
       exact ⟨z76_, z21_⟩

end Go.Proofs.YtnngbnhbmgdkoaaGreatDoor.P
