-- Laid by wip/tools/cprint.py of this claim's own repo (over the kit's print).
import Derived.Test.YtnngbnhbmgdkoaaGreatDoorSq
import Derived.Test.YtnngbnhbmgdkoaaGreatDoorPx0
namespace Go.Proofs.YtnngbnhbmgdkoaaGreatDoor.P
open Go.RowKit Go.Proofs.YtnngbnhbmgdkoaaGreatDoor.E Go.Proofs.YtnngbnhbmgdkoaaGreatDoorW.PrintWords Go.Proofs.YtnngbnhbmgdkoaaGreatDoorW.PrintLast
set_option linter.unusedVariables false
set_option linter.unusedSimpArgs false

/-! ### cambistlaw19_small: function 5 -/
mutual
def cambistlaw19_small.j0 : Nat → Bool → ByteArray → ByteArray → Int → Int → List (S37) → Int → Option (Bool)
 | 0, _, _, _, _, _, _, _ => none
 | k + 1, x19, x154000, x154001, x154002, x154003, x154004, x154005 => if x19 = true then (some false) else (cambistlaw19_small.l0 k 0 x154000 x154001 x154002 x154003 x154004 x154005)
def cambistlaw19_small.l0 : Nat → Int → ByteArray → ByteArray → Int → Int → List (S37) → Int → Option (Bool)
 | 0, _, _, _, _, _, _, _ => none
 | k + 1, x3, x154000, x154001, x154002, x154003, x154004, x154005 => if x3 < (x154004.length : Int) then (if 0 ≤ x3 then (if (((rd_T37 x154004 x3).f1).size : Int) > 100 then (some false) else (cambistlaw19_small.l0 k (wrap64 (x3 + 1)) x154000 x154001 x154002 x154003 x154004 x154005)) else (none)) else (some true)
end
def cambistlaw19_small.f (k : Nat) (a0_0 : ByteArray) (a0_1 : ByteArray) (a0_2 : Int) (a0_3 : Int) (l0_4 : List (S37)) (a0_5 : Int) : Option (Bool) := if (l0_4.length : Int) > 100 then (cambistlaw19_small.j0 k true a0_0 a0_1 a0_2 a0_3 l0_4 a0_5) else (if (a0_0.size : Int) > 100 then (cambistlaw19_small.j0 k true a0_0 a0_1 a0_2 a0_3 l0_4 a0_5) else (cambistlaw19_small.j0 k (decide ((a0_1.size : Int) > 100)) a0_0 a0_1 a0_2 a0_3 l0_4 a0_5))
theorem cambistlaw19_small.mono_l : ∀ k, (∀ y0 y1 y2 y3 y4 y5 y6, LeO (cambistlaw19_small.j0 k y0 y1 y2 y3 y4 y5 y6) (cambistlaw19_small.j0 (k + 1) y0 y1 y2 y3 y4 y5 y6)) ∧ (∀ y0 y1 y2 y3 y4 y5 y6, LeO (cambistlaw19_small.l0 k y0 y1 y2 y3 y4 y5 y6) (cambistlaw19_small.l0 (k + 1) y0 y1 y2 y3 y4 y5 y6))
 | 0 => ⟨fun _ _ _ _ _ _ _ r h => by simp [cambistlaw19_small.j0] at h, fun _ _ _ _ _ _ _ r h => by simp [cambistlaw19_small.l0] at h⟩
 | k + 1 => by
  obtain ⟨ih0, ih1⟩ := cambistlaw19_small.mono_l k
  refine ⟨?_, ?_⟩
  ·intro y0 y1 y2 y3 y4 y5 y6
   unfold cambistlaw19_small.j0
   repeat' first
   | (with_reducible exact ih0 _ _ _ _ _ _ _)
   | (with_reducible exact ih1 _ _ _ _ _ _ _)
   | (with_reducible first | exact LeO.refl _ | exact LeO.none _ | refine LeO.ite ?_ ?_ | refine LeO.bind ?_ fun _ => ?_)
   | exact ih0 _ _ _ _ _ _ _
   | exact ih1 _ _ _ _ _ _ _
  ·intro y0 y1 y2 y3 y4 y5 y6
   unfold cambistlaw19_small.l0
   repeat' first
   | (with_reducible exact ih0 _ _ _ _ _ _ _)
   | (with_reducible exact ih1 _ _ _ _ _ _ _)
   | (with_reducible first | exact LeO.refl _ | exact LeO.none _ | refine LeO.ite ?_ ?_ | refine LeO.bind ?_ fun _ => ?_)
   | exact ih0 _ _ _ _ _ _ _
   | exact ih1 _ _ _ _ _ _ _
theorem cambistlaw19_small.mono : ∀ a0 a1 a2 a3 a4 a5 k, LeO (cambistlaw19_small.f k a0 a1 a2 a3 a4 a5) (cambistlaw19_small.f (k + 1) a0 a1 a2 a3 a4 a5) := by
 intro a0 a1 a2 a3 a4 a5 k
 obtain ⟨ih0, ih1⟩ := cambistlaw19_small.mono_l k
 unfold cambistlaw19_small.f
 repeat' first
   | (with_reducible exact ih0 _ _ _ _ _ _ _)
   | (with_reducible exact ih1 _ _ _ _ _ _ _)
   | (with_reducible first | exact LeO.refl _ | exact LeO.none _ | refine LeO.ite ?_ ?_ | refine LeO.bind ?_ fun _ => ?_)
   | exact ih0 _ _ _ _ _ _ _
   | exact ih1 _ _ _ _ _ _ _
set_option maxHeartbeats 8000000 in
set_option maxRecDepth 100000 in
theorem cambistlaw19_small.calls (k : Nat) (a0_0 : ByteArray) (a0_1 : ByteArray) (a0_2 : Int) (a0_3 : Int) (A0_4 : Option Addr) (c0_4 : Nat) (l0_4 : List (S37)) (a0_5 : Int) (r : Bool) (w : World) (hG : Glob w) (hr0_4 : Kd.C k37 w A0_4 l0_4.length l0_4) (hc0_4 : l0_4.length ≤ c0_4) (h : cambistlaw19_small.f k a0_0 a0_1 a0_2 a0_3 l0_4 a0_5 = some r) :
  Calls Tryz.prog 5 #[.agg #[.string a0_0, .string a0_1, .int .u64 a0_2, .int .i64 a0_3, .slice A0_4 l0_4.length c0_4, .int .i64 a0_5]] w fun e w' => e = .returned (.bool r) ∧ Below w.heap.size w w' := by
 have hu25 := Tryz.underlying25
 have HG := a_ hG
 clear hG
 have HR0_4 := a_ hr0_4
 have HC0_4 := a_ hc0_4
 clear hr0_4 hc0_4
 have HB := a_ (Below.refl w.heap.size w)
 have H : (if (l0_4.length : Int) > 100 then (cambistlaw19_small.j0 k true a0_0 a0_1 a0_2 a0_3 l0_4 a0_5) else (if (a0_0.size : Int) > 100 then (cambistlaw19_small.j0 k true a0_0 a0_1 a0_2 a0_3 l0_4 a0_5) else (cambistlaw19_small.j0 k (decide ((a0_1.size : Int) > 100)) a0_0 a0_1 a0_2 a0_3 l0_4 a0_5))) = some r := h
 clear h
 have HC2 := a_ H
 clear H
 go_enter Tryz.func5, Tryz.ntmps5
 go_upto_region 1 with (first | ((with_reducible refine gate_dst (N := 1) rfl ?_); (try (refine gate_guard (by rfl) ?_; dsimp only)); refine box_event ?hg (N := 1) ?hd (cs := #[.string a0_0, .string a0_1, .int .u64 a0_2, .int .i64 a0_3, .slice A0_4 l0_4.length c0_4, .int .i64 a0_5]) (t := 25) ?hr ?_; (case hd => rfl); (case hg => rfl); (case hr => first | (go_simp; done) | (go_simp; rfl)); intro gb153 hg w3 hbox hb; have n0_ := a_ (below_step z45_ hb); have n1_ := a_ (hbox); have n2_ := a_ ((z32_ : w.heap.size ≤ gb153)); have n3_ := a_ ((z32_ : w.heap.size ≤ gb153)); clear HB; have HB := n0_; have BK153 := n1_; have GW153 := n2_; have GE153 := n3_; clear n0_ n1_ n2_ n3_; clear hb hbox hg))
 (try simp only [Act.put, sT_, s0_, sS_])
 go_cut [19] (fun v19 wc => ∃ (kq : Nat) (x19_1 : Bool), v19 = .bool x19_1 ∧ Aside0 (cambistlaw19_small.j0 kq x19_1 a0_0 a0_1 a0_2 a0_3 l0_4 a0_5 = some r) ∧ Aside0 (kq ≤ k) ∧ Aside0 (wc.heap[gb153]? = some (.cells #[.string a0_0, .string a0_1, .int .u64 a0_2, .int .i64 a0_3, (.slice A0_4 l0_4.length c0_4), .int .i64 a0_5] 25 (0, 0))) ∧ Aside0 (Below w.heap.size w wc))
 case first =>
  have H := HC2.out
  clear HC2
  by_cases c4 : (l0_4.length : Int) > 100
  ·rw [if_pos c4] at H
   have c4b0 : decide (100 < (l0_4.length : Int)) = true := decide_eq_true c4
   have c4b1 : decide (100 < l0_4.length) = true := decide_eq_true (by omega)
   clear c4
   (first | rw [c4b0] | (simp only [i64_w, i32_w]; rw [c4b0]) | skip)
   have H' := a_ H
   clear H
   have hcz5_0 : w3.cell? ⟨gb153, 0, none⟩ = some (.string a0_0) := (blk_cell BK153.out 0).trans rfl
   have hcz5_1 : w3.cell? ⟨gb153, 1, none⟩ = some (.string a0_1) := (blk_cell BK153.out 1).trans rfl
   have hcz5_2 : w3.cell? ⟨gb153, 2, none⟩ = some (.int .u64 a0_2) := (blk_cell BK153.out 2).trans rfl
   have hcz5_3 : w3.cell? ⟨gb153, 3, none⟩ = some (.int .i64 a0_3) := (blk_cell BK153.out 3).trans rfl
   have hcz5_4 : w3.cell? ⟨gb153, 4, none⟩ = some (.slice A0_4 l0_4.length c0_4) := (blk_cell BK153.out 4).trans rfl
   have hcz5_5 : w3.cell? ⟨gb153, 5, none⟩ = some (.int .i64 a0_5) := (blk_cell BK153.out 5).trans rfl
   have hfz5_0 := blk_frozen BK153.out 0
   have hfz5_1 := blk_frozen BK153.out 1
   have hfz5_2 := blk_frozen BK153.out 2
   have hfz5_3 := blk_frozen BK153.out 3
   have hfz5_4 := blk_frozen BK153.out 4
   have hfz5_5 := blk_frozen BK153.out 5
   go_wp2
   go_meet
   case rel => exact ⟨_, (true), z80_, H', ⟨z83_⟩, ⟨z65_⟩, ⟨z36_⟩⟩
  ·rw [if_neg c4] at H
   have c4b0 : decide (100 < (l0_4.length : Int)) = false := decide_eq_false c4
   have c4b1 : decide (100 < l0_4.length) = false := decide_eq_false (by omega)
   clear c4
   (first | rw [c4b0] | (simp only [i64_w, i32_w]; rw [c4b0]) | skip)
   by_cases c6 : (a0_0.size : Int) > 100
   ·rw [if_pos c6] at H
    have c6b0 : decide (100 < (a0_0.size : Int)) = true := decide_eq_true c6
    have c6b1 : decide (100 < a0_0.size) = true := decide_eq_true (by omega)
    clear c6
    have H' := a_ H
    clear H
    have hcz7_0 : w3.cell? ⟨gb153, 0, none⟩ = some (.string a0_0) := (blk_cell BK153.out 0).trans rfl
    have hcz7_1 : w3.cell? ⟨gb153, 1, none⟩ = some (.string a0_1) := (blk_cell BK153.out 1).trans rfl
    have hcz7_2 : w3.cell? ⟨gb153, 2, none⟩ = some (.int .u64 a0_2) := (blk_cell BK153.out 2).trans rfl
    have hcz7_3 : w3.cell? ⟨gb153, 3, none⟩ = some (.int .i64 a0_3) := (blk_cell BK153.out 3).trans rfl
    have hcz7_4 : w3.cell? ⟨gb153, 4, none⟩ = some (.slice A0_4 l0_4.length c0_4) := (blk_cell BK153.out 4).trans rfl
    have hcz7_5 : w3.cell? ⟨gb153, 5, none⟩ = some (.int .i64 a0_5) := (blk_cell BK153.out 5).trans rfl
    have hfz7_0 := blk_frozen BK153.out 0
    have hfz7_1 := blk_frozen BK153.out 1
    have hfz7_2 := blk_frozen BK153.out 2
    have hfz7_3 := blk_frozen BK153.out 3
    have hfz7_4 := blk_frozen BK153.out 4
    have hfz7_5 := blk_frozen BK153.out 5
    go_wp2
    go_meet
    case rel => exact ⟨_, (true), z80_, H', ⟨z83_⟩, ⟨z65_⟩, ⟨z36_⟩⟩
   ·rw [if_neg c6] at H
    have c6b0 : decide (100 < (a0_0.size : Int)) = false := decide_eq_false c6
    have c6b1 : decide (100 < a0_0.size) = false := decide_eq_false (by omega)
    clear c6
    have H' := a_ H
    clear H
    have hcz8_0 : w3.cell? ⟨gb153, 0, none⟩ = some (.string a0_0) := (blk_cell BK153.out 0).trans rfl
    have hcz8_1 : w3.cell? ⟨gb153, 1, none⟩ = some (.string a0_1) := (blk_cell BK153.out 1).trans rfl
    have hcz8_2 : w3.cell? ⟨gb153, 2, none⟩ = some (.int .u64 a0_2) := (blk_cell BK153.out 2).trans rfl
    have hcz8_3 : w3.cell? ⟨gb153, 3, none⟩ = some (.int .i64 a0_3) := (blk_cell BK153.out 3).trans rfl
    have hcz8_4 : w3.cell? ⟨gb153, 4, none⟩ = some (.slice A0_4 l0_4.length c0_4) := (blk_cell BK153.out 4).trans rfl
    have hcz8_5 : w3.cell? ⟨gb153, 5, none⟩ = some (.int .i64 a0_5) := (blk_cell BK153.out 5).trans rfl
    have hfz8_0 := blk_frozen BK153.out 0
    have hfz8_1 := blk_frozen BK153.out 1
    have hfz8_2 := blk_frozen BK153.out 2
    have hfz8_3 := blk_frozen BK153.out 3
    have hfz8_4 := blk_frozen BK153.out 4
    have hfz8_5 := blk_frozen BK153.out 5
    go_wp2
    go_meet
    case rel => exact ⟨_, (decide ((a0_1.size : Int) > 100)), z80_, H', ⟨z83_⟩, ⟨z65_⟩, ⟨z36_⟩⟩
 case rest =>
  clear HC2
  try clear p2
  try clear c4
  try clear c4b0
  try clear c4b1
  try clear c5
  try clear c6
  try clear c6b0
  try clear c6b1
  try clear hcz5_0
  try clear hcz5_1
  try clear hcz5_2
  try clear hcz5_3
  try clear hcz5_4
  try clear hcz5_5
  try clear hcz7_0
  try clear hcz7_1
  try clear hcz7_2
  try clear hcz7_3
  try clear hcz7_4
  try clear hcz7_5
  try clear hcz8_0
  try clear hcz8_1
  try clear hcz8_2
  try clear hcz8_3
  try clear hcz8_4
  try clear hcz8_5
  try clear hfz5_0
  try clear hfz5_1
  try clear hfz5_2
  try clear hfz5_3
  try clear hfz5_4
  try clear hfz5_5
  try clear hfz7_0
  try clear hfz7_1
  try clear hfz7_2
  try clear hfz7_3
  try clear hfz7_4
  try clear hfz7_5
  try clear hfz8_0
  try clear hfz8_1
  try clear hfz8_2
  try clear hfz8_3
  try clear hfz8_4
  try clear hfz8_5
  obtain ⟨kq, x19_1, rfl, HA, HJ1, BK153, HB⟩ := hcut
  cases kq with
  | zero => exact absurd HA.out (by simp [cambistlaw19_small.j0])
  | succ kj1 =>
   have H := HA.out
   clear HA
   simp only [cambistlaw19_small.j0] at H
   by_cases c9 : x19_1 = true
   ·subst c9
    have H1 : (some false) = some r := by rw [if_pos rfl] at H; exact H
    clear H
    have H := H1
    clear H1
    obtain rfl := Option.some.inj H
    go_wp2
    go_ret
    exact ⟨z76_, z36_⟩
   ·replace c9 := Bool.eq_false_iff.mpr c9
    subst c9
    have H1 : (cambistlaw19_small.l0 kj1 0 a0_0 a0_1 a0_2 a0_3 l0_4 a0_5) = some r := by rw [if_neg (show ¬ (false = true) by decide)] at H; exact H
    clear H
    have H := H1
    clear H1
    have H' := a_ H
    clear H
    go_wp2
    go_loopg [3] kj1 (fun kq v3 w' => ∃ (x3_2 : Int), v3 = .int .i64 x3_2 ∧ Aside0 (cambistlaw19_small.l0 kq x3_2 a0_0 a0_1 a0_2 a0_3 l0_4 a0_5 = some r) ∧ Aside0 (kq ≤ kj1) ∧ Aside0 (w'.heap[gb153]? = some (.cells #[.string a0_0, .string a0_1, .int .u64 a0_2, .int .i64 a0_3, (.slice A0_4 l0_4.length c0_4), .int .i64 a0_5] 25 (0, 0))) ∧ Aside0 (Below w.heap.size w w'))
    case atStart => exact ⟨(0), z80_, H', ⟨Nat.le_refl _⟩, ⟨z65_⟩, ⟨z36_⟩⟩
    case round =>
     clear H'
     try clear p2
     try clear c4
     try clear c4b0
     try clear c4b1
     try clear c5
     try clear c6
     try clear c6b0
     try clear c6b1
     try clear c9
     try clear hcz5_0
     try clear hcz5_1
     try clear hcz5_2
     try clear hcz5_3
     try clear hcz5_4
     try clear hcz5_5
     try clear hcz7_0
     try clear hcz7_1
     try clear hcz7_2
     try clear hcz7_3
     try clear hcz7_4
     try clear hcz7_5
     try clear hcz8_0
     try clear hcz8_1
     try clear hcz8_2
     try clear hcz8_3
     try clear hcz8_4
     try clear hcz8_5
     try clear hfz5_0
     try clear hfz5_1
     try clear hfz5_2
     try clear hfz5_3
     try clear hfz5_4
     try clear hfz5_5
     try clear hfz7_0
     try clear hfz7_1
     try clear hfz7_2
     try clear hfz7_3
     try clear hfz7_4
     try clear hfz7_5
     try clear hfz8_0
     try clear hfz8_1
     try clear hfz8_2
     try clear hfz8_3
     try clear hfz8_4
     try clear hfz8_5
     try clear p2
     obtain ⟨x3_2, rfl, HA, HK2, BK153, HB⟩ := hrel
     cases gk with
     | zero => exact absurd HA.out (by simp [cambistlaw19_small.l0])
     | succ k2 =>
      have H := HA.out
      clear HA
      simp only [cambistlaw19_small.l0] at H
      by_cases c10 : x3_2 < (l0_4.length : Int)
      ·rw [if_pos c10] at H
       have c10b0 : decide (x3_2 < (l0_4.length : Int)) = true := decide_eq_true c10
       clear c10
       by_cases c11 : 0 ≤ x3_2
       ·rw [if_pos c11] at H
        have c11b0 : decide (0 ≤ x3_2) = true := decide_eq_true c11
        clear c11
        by_cases c12 : (((rd_T37 l0_4 x3_2).f1).size : Int) > 100
        ·rw [if_pos c12] at H
         have c12b0 : decide (100 < (((rd_T37 l0_4 x3_2).f1).size : Int)) = true := decide_eq_true c12
         have c12b1 : decide (100 < ((rd_T37 l0_4 x3_2).f1).size) = true := decide_eq_true (by omega)
         clear c12
         obtain rfl := Option.some.inj H
         have hcz13_0 : wr.cell? ⟨gb153, 0, none⟩ = some (.string a0_0) := (blk_cell BK153.out 0).trans rfl
         have hcz13_1 : wr.cell? ⟨gb153, 1, none⟩ = some (.string a0_1) := (blk_cell BK153.out 1).trans rfl
         have hcz13_2 : wr.cell? ⟨gb153, 2, none⟩ = some (.int .u64 a0_2) := (blk_cell BK153.out 2).trans rfl
         have hcz13_3 : wr.cell? ⟨gb153, 3, none⟩ = some (.int .i64 a0_3) := (blk_cell BK153.out 3).trans rfl
         have hcz13_4 : wr.cell? ⟨gb153, 4, none⟩ = some (.slice A0_4 l0_4.length c0_4) := (blk_cell BK153.out 4).trans rfl
         have hcz13_5 : wr.cell? ⟨gb153, 5, none⟩ = some (.int .i64 a0_5) := (blk_cell BK153.out 5).trans rfl
         have hfz13_0 := blk_frozen BK153.out 0
         have hfz13_1 := blk_frozen BK153.out 1
         have hfz13_2 := blk_frozen BK153.out 2
         have hfz13_3 := blk_frozen BK153.out 3
         have hfz13_4 := blk_frozen BK153.out 4
         have hfz13_5 := blk_frozen BK153.out 5
         have p154 : 0 ≤ (x3_2 : Int) := of_decide_eq_true z79_
         have q154 : x3_2 < (l0_4.length : Int) := of_decide_eq_true z79_
         obtain ⟨ad154, e154, hx154_0, hx154_1, hx154_2⟩ := at_T37 HR0_4.out x3_2 p154 q154
         cases e154
         replace hx154_0 := (HB.out.cell (World.block_lt_of_cell? w _ hx154_0)).trans hx154_0
         replace hx154_1 := (HB.out.cell (World.block_lt_of_cell? w _ hx154_1)).trans hx154_1
         replace hx154_2 := (HB.out.cell (World.block_lt_of_cell? w _ hx154_2)).trans hx154_2
         replace p154 := eq_true p154
         replace q154 := eq_true q154
         go_wp2
         go_ret
         exact ⟨z76_, z36_⟩
        ·rw [if_neg c12] at H
         have c12b0 : decide (100 < (((rd_T37 l0_4 x3_2).f1).size : Int)) = false := decide_eq_false c12
         have c12b1 : decide (100 < ((rd_T37 l0_4 x3_2).f1).size) = false := decide_eq_false (by omega)
         clear c12
         have H' := a_ H
         clear H
         have hcz14_0 : wr.cell? ⟨gb153, 0, none⟩ = some (.string a0_0) := (blk_cell BK153.out 0).trans rfl
         have hcz14_1 : wr.cell? ⟨gb153, 1, none⟩ = some (.string a0_1) := (blk_cell BK153.out 1).trans rfl
         have hcz14_2 : wr.cell? ⟨gb153, 2, none⟩ = some (.int .u64 a0_2) := (blk_cell BK153.out 2).trans rfl
         have hcz14_3 : wr.cell? ⟨gb153, 3, none⟩ = some (.int .i64 a0_3) := (blk_cell BK153.out 3).trans rfl
         have hcz14_4 : wr.cell? ⟨gb153, 4, none⟩ = some (.slice A0_4 l0_4.length c0_4) := (blk_cell BK153.out 4).trans rfl
         have hcz14_5 : wr.cell? ⟨gb153, 5, none⟩ = some (.int .i64 a0_5) := (blk_cell BK153.out 5).trans rfl
         have hfz14_0 := blk_frozen BK153.out 0
         have hfz14_1 := blk_frozen BK153.out 1
         have hfz14_2 := blk_frozen BK153.out 2
         have hfz14_3 := blk_frozen BK153.out 3
         have hfz14_4 := blk_frozen BK153.out 4
         have hfz14_5 := blk_frozen BK153.out 5
         have p154 : 0 ≤ (x3_2 : Int) := of_decide_eq_true z79_
         have q154 : x3_2 < (l0_4.length : Int) := of_decide_eq_true z79_
         obtain ⟨ad154, e154, hx154_0, hx154_1, hx154_2⟩ := at_T37 HR0_4.out x3_2 p154 q154
         cases e154
         replace hx154_0 := (HB.out.cell (World.block_lt_of_cell? w _ hx154_0)).trans hx154_0
         replace hx154_1 := (HB.out.cell (World.block_lt_of_cell? w _ hx154_1)).trans hx154_1
         replace hx154_2 := (HB.out.cell (World.block_lt_of_cell? w _ hx154_2)).trans hx154_2
         replace p154 := eq_true p154
         replace q154 := eq_true q154
         go_wp2
         go_roundg k2
         case measure => have := HJ1.out; have := HK2.out; omega
         case rel => exact ⟨(wrap64 (x3_2 + 1)), z80_, H', ⟨by have := HJ1.out; have := HK2.out; omega⟩, ⟨z65_⟩, ⟨z36_⟩⟩
       ·rw [if_neg c11] at H
        exact absurd H (by simp)
      ·rw [if_neg c10] at H
       have c10b0 : decide (x3_2 < (l0_4.length : Int)) = false := decide_eq_false c10
       clear c10
       obtain rfl := Option.some.inj H
       have hcz15_0 : wr.cell? ⟨gb153, 0, none⟩ = some (.string a0_0) := (blk_cell BK153.out 0).trans rfl
       have hcz15_1 : wr.cell? ⟨gb153, 1, none⟩ = some (.string a0_1) := (blk_cell BK153.out 1).trans rfl
       have hcz15_2 : wr.cell? ⟨gb153, 2, none⟩ = some (.int .u64 a0_2) := (blk_cell BK153.out 2).trans rfl
       have hcz15_3 : wr.cell? ⟨gb153, 3, none⟩ = some (.int .i64 a0_3) := (blk_cell BK153.out 3).trans rfl
       have hcz15_4 : wr.cell? ⟨gb153, 4, none⟩ = some (.slice A0_4 l0_4.length c0_4) := (blk_cell BK153.out 4).trans rfl
       have hcz15_5 : wr.cell? ⟨gb153, 5, none⟩ = some (.int .i64 a0_5) := (blk_cell BK153.out 5).trans rfl
       have hfz15_0 := blk_frozen BK153.out 0
       have hfz15_1 := blk_frozen BK153.out 1
       have hfz15_2 := blk_frozen BK153.out 2
       have hfz15_3 := blk_frozen BK153.out 3
       have hfz15_4 := blk_frozen BK153.out 4
       have hfz15_5 := blk_frozen BK153.out 5
       go_wp2
       go_ret
       exact ⟨z76_, z36_⟩

/-! ### cambistref02_within: function 54 -/
def cambistref02_within.f (a0 : Int) (a1 : Int) (a2 : Int) : Option (Bool) := if a0 ≥ a1 then (some (decide (a0 ≤ a2))) else (some false)
set_option maxHeartbeats 8000000 in
set_option maxRecDepth 100000 in
theorem cambistref02_within.calls (a0 : Int) (a1 : Int) (a2 : Int) (r : Bool) (w : World) (hG : Glob w) (h : cambistref02_within.f a0 a1 a2 = some r) :
  Calls Tryz.prog 54 #[.int .u8 a0, .int .u8 a1, .int .u8 a2] w fun e w' => e = .returned (.bool r) ∧ Drawn0 w w' := by
 have HG := a_ hG
 clear hG
 have H : (if a0 ≥ a1 then (some (decide (a0 ≤ a2))) else (some false)) = some r := h
 clear h
 by_cases c4 : a0 ≥ a1
 ·rw [if_pos c4] at H
  have c4b0 : decide (a1 ≤ a0) = true := decide_eq_true c4
  clear c4
  obtain rfl := Option.some.inj H
  go_enter Tryz.func54, Tryz.ntmps54
  go_wp2
  go_ret
  exact ⟨z80_, z78_⟩
 ·rw [if_neg c4] at H
  have c4b0 : decide (a1 ≤ a0) = false := decide_eq_false c4
  clear c4
  obtain rfl := Option.some.inj H
  go_enter Tryz.func54, Tryz.ntmps54
  go_wp2
  go_ret
  exact ⟨z80_, z78_⟩

/-! ### cambistref02_Who: function 36 -/
mutual
def cambistref02_Who.j0 : Nat → ByteArray → Bool → Option (Bool)
 | 0, _, _ => none
 | k + 1, x0, x13 => if x13 = true then (some false) else (cambistref02_Who.l0 k x0 0)
def cambistref02_Who.l0 : Nat → ByteArray → Int → Option (Bool)
 | 0, _, _ => none
 | k + 1, x0, x3 => if x3 < (x0.size : Int) then (if 0 ≤ x3 then ((cambistref02_within.f (bt x0 x3) 97 122).bind fun t155 => ((cambistref02_within.f (bt x0 x3) 48 57).bind fun t156 => (if t155 = true then (cambistref02_Who.l0 k x0 (wrap64 (x3 + 1))) else (if x3 = 0 then (some false) else (if t156 = true then (cambistref02_Who.l0 k x0 (wrap64 (x3 + 1))) else (some false)))))) else (none)) else (some true)
end
def cambistref02_Who.f (k : Nat) (a0 : ByteArray) : Option (Bool) := if (a0.size : Int) < 1 then (cambistref02_Who.j0 k a0 true) else (cambistref02_Who.j0 k a0 (decide ((a0.size : Int) > 8)))
theorem cambistref02_Who.mono_l : ∀ k, (∀ y0 y1, LeO (cambistref02_Who.j0 k y0 y1) (cambistref02_Who.j0 (k + 1) y0 y1)) ∧ (∀ y0 y1, LeO (cambistref02_Who.l0 k y0 y1) (cambistref02_Who.l0 (k + 1) y0 y1))
 | 0 => ⟨fun _ _ r h => by simp [cambistref02_Who.j0] at h, fun _ _ r h => by simp [cambistref02_Who.l0] at h⟩
 | k + 1 => by
  obtain ⟨ih0, ih1⟩ := cambistref02_Who.mono_l k
  refine ⟨?_, ?_⟩
  ·intro y0 y1
   unfold cambistref02_Who.j0
   repeat' first
   | (with_reducible exact ih0 _ _)
   | (with_reducible exact ih1 _ _)
   | (with_reducible first | exact LeO.refl _ | exact LeO.none _ | refine LeO.ite ?_ ?_ | refine LeO.bind ?_ fun _ => ?_)
   | exact ih0 _ _
   | exact ih1 _ _
  ·intro y0 y1
   unfold cambistref02_Who.l0
   repeat' first
   | (with_reducible exact ih0 _ _)
   | (with_reducible exact ih1 _ _)
   | (with_reducible first | exact LeO.refl _ | exact LeO.none _ | refine LeO.ite ?_ ?_ | refine LeO.bind ?_ fun _ => ?_)
   | exact ih0 _ _
   | exact ih1 _ _
theorem cambistref02_Who.mono : ∀ a0 k, LeO (cambistref02_Who.f k a0) (cambistref02_Who.f (k + 1) a0) := by
 intro a0 k
 obtain ⟨ih0, ih1⟩ := cambistref02_Who.mono_l k
 unfold cambistref02_Who.f
 repeat' first
   | (with_reducible exact ih0 _ _)
   | (with_reducible exact ih1 _ _)
   | (with_reducible first | exact LeO.refl _ | exact LeO.none _ | refine LeO.ite ?_ ?_ | refine LeO.bind ?_ fun _ => ?_)
   | exact ih0 _ _
   | exact ih1 _ _
set_option maxHeartbeats 8000000 in
set_option maxRecDepth 100000 in
theorem cambistref02_Who.calls (k : Nat) (a0 : ByteArray) (r : Bool) (w : World) (hG : Glob w) (h : cambistref02_Who.f k a0 = some r) :
  Calls Tryz.prog 36 #[.string a0] w fun e w' => e = .returned (.bool r) ∧ Drawn0 w w' := by
 have HG := a_ hG
 clear hG
 have H : (if (a0.size : Int) < 1 then (cambistref02_Who.j0 k a0 true) else (cambistref02_Who.j0 k a0 (decide ((a0.size : Int) > 8)))) = some r := h
 clear h
 have HC2 := a_ H
 clear H
 go_enter Tryz.func36, Tryz.ntmps36
 go_upto_region 1 with (fail)
 go_cut [13] (fun v13 wc => ∃ (kq : Nat) (x13_1 : Bool), v13 = .bool x13_1 ∧ Aside0 (cambistref02_Who.j0 kq a0 x13_1 = some r) ∧ Aside0 (kq ≤ k) ∧ Drawn0 w wc)
 case first =>
  have H := HC2.out
  clear HC2
  by_cases c3 : (a0.size : Int) < 1
  ·rw [if_pos c3] at H
   have c3b0 : decide ((a0.size : Int) < 1) = true := decide_eq_true c3
   have c3b1 : decide (a0.size < 1) = true := decide_eq_true (by omega)
   clear c3
   (first | rw [c3b0] | (simp only [i64_w, i32_w]; rw [c3b0]) | skip)
   have H' := a_ H
   clear H
   go_wp2
   go_meet
   case rel => exact ⟨_, (true), z80_, H', ⟨z83_⟩, z78_⟩
  ·rw [if_neg c3] at H
   have c3b0 : decide ((a0.size : Int) < 1) = false := decide_eq_false c3
   have c3b1 : decide (a0.size < 1) = false := decide_eq_false (by omega)
   clear c3
   (first | rw [c3b0] | (simp only [i64_w, i32_w]; rw [c3b0]) | skip)
   have H' := a_ H
   clear H
   go_wp2
   go_meet
   case rel => exact ⟨_, (decide ((a0.size : Int) > 8)), z80_, H', ⟨z83_⟩, z78_⟩
 case rest =>
  clear HC2
  try clear p2
  try clear c3
  try clear c3b0
  try clear c3b1
  obtain ⟨kq, x13_1, rfl, HA, HJ1, ⟨mc1, rfl⟩⟩ := hcut
  cases kq with
  | zero => exact absurd HA.out (by simp [cambistref02_Who.j0])
  | succ kj1 =>
   have H := HA.out
   clear HA
   simp only [cambistref02_Who.j0] at H
   by_cases c4 : x13_1 = true
   ·subst c4
    have H1 : (some false) = some r := by rw [if_pos rfl] at H; exact H
    clear H
    have H := H1
    clear H1
    obtain rfl := Option.some.inj H
    go_wp2
    go_ret
    exact ⟨z80_, z78_⟩
   ·replace c4 := Bool.eq_false_iff.mpr c4
    subst c4
    have H1 : (cambistref02_Who.l0 kj1 a0 0) = some r := by rw [if_neg (show ¬ (false = true) by decide)] at H; exact H
    clear H
    have H := H1
    clear H1
    have H' := a_ H
    clear H
    go_wp2
    go_loopg [3] kj1 (fun kq v3 w' => ∃ (x3_2 : Int), v3 = .int .i64 x3_2 ∧ Aside0 (cambistref02_Who.l0 kq a0 x3_2 = some r) ∧ Aside0 (kq ≤ kj1) ∧ Drawn0 w w')
    case atStart => exact ⟨(0), z80_, H', ⟨Nat.le_refl _⟩, z78_⟩
    case round =>
     clear H'
     try clear c1
     try clear p2
     try clear c3
     try clear c3b0
     try clear c3b1
     try clear c4
     try clear p2
     obtain ⟨x3_2, rfl, HA, HK2, ⟨m2, rfl⟩⟩ := hrel
     cases gk with
     | zero => exact absurd HA.out (by simp [cambistref02_Who.l0])
     | succ k2 =>
      have H := HA.out
      clear HA
      simp only [cambistref02_Who.l0] at H
      by_cases c5 : x3_2 < (a0.size : Int)
      ·rw [if_pos c5] at H
       have c5b0 : decide (x3_2 < (a0.size : Int)) = true := decide_eq_true c5
       clear c5
       by_cases c6 : 0 ≤ x3_2
       ·rw [if_pos c6] at H
        have c6b0 : decide (0 ≤ x3_2) = true := decide_eq_true c6
        clear c6
        replace H := Option.bind_eq_some_iff.mp H
        obtain ⟨t155, A80, H⟩ := H
        replace H : ((cambistref02_within.f (bt a0 x3_2) 48 57).bind fun t156 => (if t155 = true then (cambistref02_Who.l0 k2 a0 (wrap64 (x3_2 + 1))) else (if x3_2 = 0 then (some false) else (if t156 = true then (cambistref02_Who.l0 k2 a0 (wrap64 (x3_2 + 1))) else (some false))))) = some r := H
        have A8 := a_ A80
        clear A80
        replace H := Option.bind_eq_some_iff.mp H
        obtain ⟨t156, A100, H⟩ := H
        replace H : (if t155 = true then (cambistref02_Who.l0 k2 a0 (wrap64 (x3_2 + 1))) else (if x3_2 = 0 then (some false) else (if t156 = true then (cambistref02_Who.l0 k2 a0 (wrap64 (x3_2 + 1))) else (some false)))) = some r := H
        have A10 := a_ A100
        clear A100
        by_cases c11 : t155 = true
        ·subst c11
         have H1 : (cambistref02_Who.l0 k2 a0 (wrap64 (x3_2 + 1))) = some r := by rw [if_pos rfl] at H; exact H
         clear H
         have H := H1
         clear H1
         have H' := a_ H
         clear H
         have p7 : 0 ≤ (x3_2 : Int) := of_decide_eq_true z79_
         have q7 : x3_2 < (a0.size : Int) := of_decide_eq_true z79_
         have hx7 := bt_at a0 x3_2
         replace p7 := eq_true p7
         replace q7 := eq_true q7
         go_wp2_with (first | ((with_reducible refine gate_callee (f := 54) rfl ?_); refine goesL_ (some 23) rfl rfl Tryz.func54 z85_ rfl #[.int .u8 (bt a0 x3_2), .int .u8 97, .int .u8 122] rfl z31_ ?_; (with_reducible refine (cambistref02_within.calls (bt a0 x3_2) 97 122 true _ ?side1 A8.out).mono ?_); (case side1 => (repeat (first | exact HG.out | apply Glob.drewN | apply Glob.drew))); rintro e w' ⟨rfl, ⟨nd, rfl⟩⟩; refine ⟨_, rfl, ?_⟩; have p9 : 0 ≤ (x3_2 : Int) := of_decide_eq_true z79_; have q9 : x3_2 < (a0.size : Int) := of_decide_eq_true z79_; have hx9 := bt_at a0 x3_2; replace p9 := eq_true p9; replace q9 := eq_true q9) | ((with_reducible refine gate_callee (f := 54) rfl ?_); refine goesL_ (some 27) rfl rfl Tryz.func54 z85_ rfl #[.int .u8 (bt a0 x3_2), .int .u8 48, .int .u8 57] rfl z31_ ?_; (with_reducible refine (cambistref02_within.calls (bt a0 x3_2) 48 57 t156 _ ?side1 A10.out).mono ?_); (case side1 => (repeat (first | exact HG.out | apply Glob.drewN | apply Glob.drew))); rintro e w' ⟨rfl, ⟨nd, rfl⟩⟩; refine ⟨_, rfl, ?_⟩))
         go_roundg k2
         case measure => have := HJ1.out; have := HK2.out; omega
         case rel => exact ⟨(wrap64 (x3_2 + 1)), z80_, H', ⟨by have := HJ1.out; have := HK2.out; omega⟩, z78_⟩
        ·replace c11 := Bool.eq_false_iff.mpr c11
         subst c11
         have H1 : (if x3_2 = 0 then (some false) else (if t156 = true then (cambistref02_Who.l0 k2 a0 (wrap64 (x3_2 + 1))) else (some false))) = some r := by rw [if_neg (show ¬ (false = true) by decide)] at H; exact H
         clear H
         have H := H1
         clear H1
         by_cases c12 : x3_2 = 0
         ·rw [if_pos c12] at H
          have c12b0 : (x3_2 == 0) = true := beq_iff_eq.mpr c12
          have c12b1 : (x3_2 != 0) = false := bne_eq_false_iff_eq.mpr c12
          clear c12
          obtain rfl := Option.some.inj H
          have p7 : 0 ≤ (x3_2 : Int) := of_decide_eq_true z79_
          have q7 : x3_2 < (a0.size : Int) := of_decide_eq_true z79_
          have hx7 := bt_at a0 x3_2
          replace p7 := eq_true p7
          replace q7 := eq_true q7
          go_wp2_with (first | ((with_reducible refine gate_callee (f := 54) rfl ?_); refine goesL_ (some 23) rfl rfl Tryz.func54 z85_ rfl #[.int .u8 (bt a0 x3_2), .int .u8 97, .int .u8 122] rfl z31_ ?_; (with_reducible refine (cambistref02_within.calls (bt a0 x3_2) 97 122 false _ ?side1 A8.out).mono ?_); (case side1 => (repeat (first | exact HG.out | apply Glob.drewN | apply Glob.drew))); rintro e w' ⟨rfl, ⟨nd, rfl⟩⟩; refine ⟨_, rfl, ?_⟩; have p9 : 0 ≤ (x3_2 : Int) := of_decide_eq_true z79_; have q9 : x3_2 < (a0.size : Int) := of_decide_eq_true z79_; have hx9 := bt_at a0 x3_2; replace p9 := eq_true p9; replace q9 := eq_true q9) | ((with_reducible refine gate_callee (f := 54) rfl ?_); refine goesL_ (some 27) rfl rfl Tryz.func54 z85_ rfl #[.int .u8 (bt a0 x3_2), .int .u8 48, .int .u8 57] rfl z31_ ?_; (with_reducible refine (cambistref02_within.calls (bt a0 x3_2) 48 57 t156 _ ?side1 A10.out).mono ?_); (case side1 => (repeat (first | exact HG.out | apply Glob.drewN | apply Glob.drew))); rintro e w' ⟨rfl, ⟨nd, rfl⟩⟩; refine ⟨_, rfl, ?_⟩))
          go_ret
          exact ⟨z80_, z78_⟩
         ·rw [if_neg c12] at H
          have c12b0 : (x3_2 == 0) = false := beq_eq_false_iff_ne.mpr c12
          have c12b1 : (x3_2 != 0) = true := bne_iff_ne.mpr c12
          by_cases c13 : t156 = true
          ·subst c13
           have H1 : (cambistref02_Who.l0 k2 a0 (wrap64 (x3_2 + 1))) = some r := by rw [if_pos rfl] at H; exact H
           clear H
           have H := H1
           clear H1
           have H' := a_ H
           clear H
           have p7 : 0 ≤ (x3_2 : Int) := of_decide_eq_true z79_
           have q7 : x3_2 < (a0.size : Int) := of_decide_eq_true z79_
           have hx7 := bt_at a0 x3_2
           replace p7 := eq_true p7
           replace q7 := eq_true q7
           go_wp2_with (first | ((with_reducible refine gate_callee (f := 54) rfl ?_); refine goesL_ (some 23) rfl rfl Tryz.func54 z85_ rfl #[.int .u8 (bt a0 x3_2), .int .u8 97, .int .u8 122] rfl z31_ ?_; (with_reducible refine (cambistref02_within.calls (bt a0 x3_2) 97 122 false _ ?side1 A8.out).mono ?_); (case side1 => (repeat (first | exact HG.out | apply Glob.drewN | apply Glob.drew))); rintro e w' ⟨rfl, ⟨nd, rfl⟩⟩; refine ⟨_, rfl, ?_⟩; have p9 : 0 ≤ (x3_2 : Int) := of_decide_eq_true z79_; have q9 : x3_2 < (a0.size : Int) := of_decide_eq_true z79_; have hx9 := bt_at a0 x3_2; replace p9 := eq_true p9; replace q9 := eq_true q9) | ((with_reducible refine gate_callee (f := 54) rfl ?_); refine goesL_ (some 27) rfl rfl Tryz.func54 z85_ rfl #[.int .u8 (bt a0 x3_2), .int .u8 48, .int .u8 57] rfl z31_ ?_; (with_reducible refine (cambistref02_within.calls (bt a0 x3_2) 48 57 true _ ?side1 A10.out).mono ?_); (case side1 => (repeat (first | exact HG.out | apply Glob.drewN | apply Glob.drew))); rintro e w' ⟨rfl, ⟨nd, rfl⟩⟩; refine ⟨_, rfl, ?_⟩))
           go_roundg k2
           case measure => have := HJ1.out; have := HK2.out; omega
           case rel => exact ⟨(wrap64 (x3_2 + 1)), z80_, H', ⟨by have := HJ1.out; have := HK2.out; omega⟩, z78_⟩
          ·replace c13 := Bool.eq_false_iff.mpr c13
           subst c13
           have H1 : (some false) = some r := by rw [if_neg (show ¬ (false = true) by decide)] at H; exact H
           clear H
           have H := H1
           clear H1
           obtain rfl := Option.some.inj H
           have p7 : 0 ≤ (x3_2 : Int) := of_decide_eq_true z79_
           have q7 : x3_2 < (a0.size : Int) := of_decide_eq_true z79_
           have hx7 := bt_at a0 x3_2
           replace p7 := eq_true p7
           replace q7 := eq_true q7
           go_wp2_with (first | ((with_reducible refine gate_callee (f := 54) rfl ?_); refine goesL_ (some 23) rfl rfl Tryz.func54 z85_ rfl #[.int .u8 (bt a0 x3_2), .int .u8 97, .int .u8 122] rfl z31_ ?_; (with_reducible refine (cambistref02_within.calls (bt a0 x3_2) 97 122 false _ ?side1 A8.out).mono ?_); (case side1 => (repeat (first | exact HG.out | apply Glob.drewN | apply Glob.drew))); rintro e w' ⟨rfl, ⟨nd, rfl⟩⟩; refine ⟨_, rfl, ?_⟩; have p9 : 0 ≤ (x3_2 : Int) := of_decide_eq_true z79_; have q9 : x3_2 < (a0.size : Int) := of_decide_eq_true z79_; have hx9 := bt_at a0 x3_2; replace p9 := eq_true p9; replace q9 := eq_true q9) | ((with_reducible refine gate_callee (f := 54) rfl ?_); refine goesL_ (some 27) rfl rfl Tryz.func54 z85_ rfl #[.int .u8 (bt a0 x3_2), .int .u8 48, .int .u8 57] rfl z31_ ?_; (with_reducible refine (cambistref02_within.calls (bt a0 x3_2) 48 57 false _ ?side1 A10.out).mono ?_); (case side1 => (repeat (first | exact HG.out | apply Glob.drewN | apply Glob.drew))); rintro e w' ⟨rfl, ⟨nd, rfl⟩⟩; refine ⟨_, rfl, ?_⟩))
           go_ret
           exact ⟨z80_, z78_⟩
       ·rw [if_neg c6] at H
        exact absurd H (by simp)
      ·rw [if_neg c5] at H
       have c5b0 : decide (x3_2 < (a0.size : Int)) = false := decide_eq_false c5
       clear c5
       obtain rfl := Option.some.inj H
       go_wp2
       go_ret
       exact ⟨z80_, z78_⟩

/-! ### cambistref02_Asset: function 37 -/
def cambistref02_Asset.l0 : Nat → ByteArray → Int → Option (Bool)
 | 0, _, _ => none
 | k + 1, x0, x3 => if x3 < (x0.size : Int) then (if 0 ≤ x3 then ((cambistref02_within.f (bt x0 x3) 65 90).bind fun t157 => (if t157 = true then (cambistref02_Asset.l0 k x0 (wrap64 (x3 + 1))) else (some false))) else (none)) else (if (x0.size : Int) ≥ 1 then (some (decide ((x0.size : Int) ≤ 6))) else (some false))
def cambistref02_Asset.f (k : Nat) (a0 : ByteArray) : Option (Bool) := cambistref02_Asset.l0 k a0 0
theorem cambistref02_Asset.mono_l : ∀ k, (∀ y0 y1, LeO (cambistref02_Asset.l0 k y0 y1) (cambistref02_Asset.l0 (k + 1) y0 y1))
 | 0 => fun _ _ r h => by simp [cambistref02_Asset.l0] at h
 | k + 1 => by
  have ih0 := cambistref02_Asset.mono_l k
  ·intro y0 y1
   unfold cambistref02_Asset.l0
   repeat' first
   | (with_reducible exact ih0 _ _)
   | (with_reducible first | exact LeO.refl _ | exact LeO.none _ | refine LeO.ite ?_ ?_ | refine LeO.bind ?_ fun _ => ?_)
   | exact ih0 _ _
theorem cambistref02_Asset.mono : ∀ a0 k, LeO (cambistref02_Asset.f k a0) (cambistref02_Asset.f (k + 1) a0) := by
 intro a0 k
 have ih0 := cambistref02_Asset.mono_l k
 unfold cambistref02_Asset.f
 repeat' first
   | (with_reducible exact ih0 _ _)
   | (with_reducible first | exact LeO.refl _ | exact LeO.none _ | refine LeO.ite ?_ ?_ | refine LeO.bind ?_ fun _ => ?_)
   | exact ih0 _ _
set_option maxHeartbeats 8000000 in
set_option maxRecDepth 100000 in
theorem cambistref02_Asset.calls (k : Nat) (a0 : ByteArray) (r : Bool) (w : World) (hG : Glob w) (h : cambistref02_Asset.f k a0 = some r) :
  Calls Tryz.prog 37 #[.string a0] w fun e w' => e = .returned (.bool r) ∧ Drawn0 w w' := by
 have HG := a_ hG
 clear hG
 have H : (cambistref02_Asset.l0 k a0 0) = some r := h
 clear h
 have H' := a_ H
 clear H
 go_enter Tryz.func37, Tryz.ntmps37
 go_wp2
 go_loopg [3] k (fun kq v3 w' => ∃ (x3_1 : Int), v3 = .int .i64 x3_1 ∧ Aside0 (cambistref02_Asset.l0 kq a0 x3_1 = some r) ∧ Aside0 (kq ≤ k) ∧ Drawn0 w w')
 case atStart => exact ⟨(0), z80_, H', ⟨Nat.le_refl _⟩, z78_⟩
 case round =>
  clear H'
  obtain ⟨x3_1, rfl, HA, HK1, ⟨m1, rfl⟩⟩ := hrel
  cases gk with
  | zero => exact absurd HA.out (by simp [cambistref02_Asset.l0])
  | succ k1 =>
   have H := HA.out
   clear HA
   simp only [cambistref02_Asset.l0] at H
   by_cases c2 : x3_1 < (a0.size : Int)
   ·rw [if_pos c2] at H
    have c2b0 : decide (x3_1 < (a0.size : Int)) = true := decide_eq_true c2
    clear c2
    by_cases c3 : 0 ≤ x3_1
    ·rw [if_pos c3] at H
     have c3b0 : decide (0 ≤ x3_1) = true := decide_eq_true c3
     clear c3
     replace H := Option.bind_eq_some_iff.mp H
     obtain ⟨t157, A50, H⟩ := H
     replace H : (if t157 = true then (cambistref02_Asset.l0 k1 a0 (wrap64 (x3_1 + 1))) else (some false)) = some r := H
     have A5 := a_ A50
     clear A50
     by_cases c6 : t157 = true
     ·subst c6
      have H1 : (cambistref02_Asset.l0 k1 a0 (wrap64 (x3_1 + 1))) = some r := by rw [if_pos rfl] at H; exact H
      clear H
      have H := H1
      clear H1
      have H' := a_ H
      clear H
      have p4 : 0 ≤ (x3_1 : Int) := of_decide_eq_true z79_
      have q4 : x3_1 < (a0.size : Int) := of_decide_eq_true z79_
      have hx4 := bt_at a0 x3_1
      replace p4 := eq_true p4
      replace q4 := eq_true q4
      go_wp2_with (first | ((with_reducible refine gate_callee (f := 54) rfl ?_); refine goesL_ (some 14) rfl rfl Tryz.func54 z85_ rfl #[.int .u8 (bt a0 x3_1), .int .u8 65, .int .u8 90] rfl z31_ ?_; (with_reducible refine (cambistref02_within.calls (bt a0 x3_1) 65 90 true _ ?side1 A5.out).mono ?_); (case side1 => (repeat (first | exact HG.out | apply Glob.drewN | apply Glob.drew))); rintro e w' ⟨rfl, ⟨nd, rfl⟩⟩; refine ⟨_, rfl, ?_⟩))
      go_roundg k1
      case measure => have := HK1.out; omega
      case rel => exact ⟨(wrap64 (x3_1 + 1)), z80_, H', ⟨z84_⟩, z78_⟩
     ·replace c6 := Bool.eq_false_iff.mpr c6
      subst c6
      have H1 : (some false) = some r := by rw [if_neg (show ¬ (false = true) by decide)] at H; exact H
      clear H
      have H := H1
      clear H1
      obtain rfl := Option.some.inj H
      have p4 : 0 ≤ (x3_1 : Int) := of_decide_eq_true z79_
      have q4 : x3_1 < (a0.size : Int) := of_decide_eq_true z79_
      have hx4 := bt_at a0 x3_1
      replace p4 := eq_true p4
      replace q4 := eq_true q4
      go_wp2_with (first | ((with_reducible refine gate_callee (f := 54) rfl ?_); refine goesL_ (some 14) rfl rfl Tryz.func54 z85_ rfl #[.int .u8 (bt a0 x3_1), .int .u8 65, .int .u8 90] rfl z31_ ?_; (with_reducible refine (cambistref02_within.calls (bt a0 x3_1) 65 90 false _ ?side1 A5.out).mono ?_); (case side1 => (repeat (first | exact HG.out | apply Glob.drewN | apply Glob.drew))); rintro e w' ⟨rfl, ⟨nd, rfl⟩⟩; refine ⟨_, rfl, ?_⟩))
      go_ret
      exact ⟨z80_, z78_⟩
    ·rw [if_neg c3] at H
     exact absurd H (by simp)
   ·rw [if_neg c2] at H
    have c2b0 : decide (x3_1 < (a0.size : Int)) = false := decide_eq_false c2
    clear c2
    by_cases c7 : (a0.size : Int) ≥ 1
    ·rw [if_pos c7] at H
     have c7b0 : decide (1 ≤ (a0.size : Int)) = true := decide_eq_true c7
     have c7b1 : decide (1 ≤ a0.size) = true := decide_eq_true (by omega)
     clear c7
     obtain rfl := Option.some.inj H
     go_wp2
     go_ret
     exact ⟨z80_, z78_⟩
    ·rw [if_neg c7] at H
     have c7b0 : decide (1 ≤ (a0.size : Int)) = false := decide_eq_false c7
     have c7b1 : decide (1 ≤ a0.size) = false := decide_eq_false (by omega)
     clear c7
     obtain rfl := Option.some.inj H
     go_wp2
     go_ret
     exact ⟨z80_, z78_⟩

/-! ### cambistref01_Add: function 73 -/
def cambistref01_Add.f (a0 : Int) (a1 : Int) : Option (Int × Int) := if a1 > 0 then (if a0 > (wrap64 (9223372036854775807 - a1)) then (some (0, 10)) else (if a1 < 0 then (if a0 < (wrap64 ((-9223372036854775808) - a1)) then (some (0, 10)) else (some (wrap64 (a0 + a1), 0))) else (some (wrap64 (a0 + a1), 0)))) else (if a1 < 0 then (if a0 < (wrap64 ((-9223372036854775808) - a1)) then (some (0, 10)) else (some (wrap64 (a0 + a1), 0))) else (some (wrap64 (a0 + a1), 0)))
set_option maxHeartbeats 8000000 in
set_option maxRecDepth 100000 in
theorem cambistref01_Add.calls (a0 : Int) (a1 : Int) (r1 : Int) (r2 : Int) (w : World) (hG : Glob w) (h : cambistref01_Add.f a0 a1 = some (r1, r2)) :
  Calls Tryz.prog 73 #[.int .i64 a0, .int .i64 a1] w fun e w' => e = .returned (.tuple #[.int .i64 r1, .int .i64 r2]) ∧ Drawn0 w w' := by
 have HG := a_ hG
 clear hG
 have H : (if a1 > 0 then (if a0 > (wrap64 (9223372036854775807 - a1)) then (some (0, 10)) else (if a1 < 0 then (if a0 < (wrap64 ((-9223372036854775808) - a1)) then (some (0, 10)) else (some (wrap64 (a0 + a1), 0))) else (some (wrap64 (a0 + a1), 0)))) else (if a1 < 0 then (if a0 < (wrap64 ((-9223372036854775808) - a1)) then (some (0, 10)) else (some (wrap64 (a0 + a1), 0))) else (some (wrap64 (a0 + a1), 0)))) = some (r1, r2) := h
 clear h
 by_cases c3 : a1 > 0
 ·rw [if_pos c3] at H
  have c3b0 : decide (0 < a1) = true := decide_eq_true c3
  clear c3
  by_cases c4 : a0 > (wrap64 (9223372036854775807 - a1))
  ·rw [if_pos c4] at H
   have c4b0 : decide ((wrap64 (9223372036854775807 - a1)) < a0) = true := decide_eq_true c4
   clear c4
   simp only [Option.some.injEq, Prod.mk.injEq] at H
   obtain ⟨rfl, rfl⟩ := H
   go_enter Tryz.func73, Tryz.ntmps73
   go_wp2
   go_ret2
   exact ⟨z80_, z78_⟩
  ·rw [if_neg c4] at H
   have c4b0 : decide ((wrap64 (9223372036854775807 - a1)) < a0) = false := decide_eq_false c4
   clear c4
   by_cases c5 : a1 < 0
   ·rw [if_pos c5] at H
    have c5b0 : decide (a1 < 0) = true := decide_eq_true c5
    clear c5
    by_cases c6 : a0 < (wrap64 ((-9223372036854775808) - a1))
    ·rw [if_pos c6] at H
     have c6b0 : decide (a0 < (wrap64 ((-9223372036854775808) - a1))) = true := decide_eq_true c6
     clear c6
     simp only [Option.some.injEq, Prod.mk.injEq] at H
     obtain ⟨rfl, rfl⟩ := H
     go_enter Tryz.func73, Tryz.ntmps73
     go_wp2
     go_ret2
     exact ⟨z80_, z78_⟩
    ·rw [if_neg c6] at H
     have c6b0 : decide (a0 < (wrap64 ((-9223372036854775808) - a1))) = false := decide_eq_false c6
     clear c6
     simp only [Option.some.injEq, Prod.mk.injEq] at H
     obtain ⟨rfl, rfl⟩ := H
     go_enter Tryz.func73, Tryz.ntmps73
     go_wp2
     go_ret2
     exact ⟨z80_, z78_⟩
   ·rw [if_neg c5] at H
    have c5b0 : decide (a1 < 0) = false := decide_eq_false c5
    clear c5
    simp only [Option.some.injEq, Prod.mk.injEq] at H
    obtain ⟨rfl, rfl⟩ := H
    go_enter Tryz.func73, Tryz.ntmps73
    go_wp2
    go_ret2
    exact ⟨z80_, z78_⟩
 ·rw [if_neg c3] at H
  have c3b0 : decide (0 < a1) = false := decide_eq_false c3
  clear c3
  by_cases c7 : a1 < 0
  ·rw [if_pos c7] at H
   have c7b0 : decide (a1 < 0) = true := decide_eq_true c7
   clear c7
   by_cases c8 : a0 < (wrap64 ((-9223372036854775808) - a1))
   ·rw [if_pos c8] at H
    have c8b0 : decide (a0 < (wrap64 ((-9223372036854775808) - a1))) = true := decide_eq_true c8
    clear c8
    simp only [Option.some.injEq, Prod.mk.injEq] at H
    obtain ⟨rfl, rfl⟩ := H
    go_enter Tryz.func73, Tryz.ntmps73
    go_wp2
    go_ret2
    exact ⟨z80_, z78_⟩
   ·rw [if_neg c8] at H
    have c8b0 : decide (a0 < (wrap64 ((-9223372036854775808) - a1))) = false := decide_eq_false c8
    clear c8
    simp only [Option.some.injEq, Prod.mk.injEq] at H
    obtain ⟨rfl, rfl⟩ := H
    go_enter Tryz.func73, Tryz.ntmps73
    go_wp2
    go_ret2
    exact ⟨z80_, z78_⟩
  ·rw [if_neg c7] at H
   have c7b0 : decide (a1 < 0) = false := decide_eq_false c7
   clear c7
   simp only [Option.some.injEq, Prod.mk.injEq] at H
   obtain ⟨rfl, rfl⟩ := H
   go_enter Tryz.func73, Tryz.ntmps73
   go_wp2
   go_ret2
   exact ⟨z80_, z78_⟩

end Go.Proofs.YtnngbnhbmgdkoaaGreatDoor.P
