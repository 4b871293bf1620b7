-- Laid by wip/tools/cprint.py of this claim's own repo (over the kit's print).
import Derived.Test.YtjlifcbddednaaaGreatDoorSq
import Derived.Test.YtjlifcbddednaaaGreatDoorPx0
import Derived.Test.YtjlifcbddednaaaGreatDoorPx10
import Derived.Test.YtjlifcbddednaaaGreatDoorPx11
namespace Go.Proofs.YtjlifcbddednaaaGreatDoor.P
open Go.RowKit Go.Proofs.YtjlifcbddednaaaGreatDoor.E Go.Proofs.YtjlifcbddednaaaGreatDoorW.PrintWords Go.Proofs.YtjlifcbddednaaaGreatDoorW.PrintLast
set_option linter.unusedVariables false
set_option linter.unusedSimpArgs false

/-! ### cambistref12_Check: function 34 -/
mutual
def cambistref12_Check.j0 : Nat → Bool → Int → Int → ByteArray → List (S36) → Option (Int)
 | 0, _, _, _, _, _ => none
 | k + 1, x25, x297000, x297001, x297002, x297003 => if x25 = true then (some 120) else (cambistref12_Check.l0 k 0 x297000 x297001 x297002 x297003)
def cambistref12_Check.l0 : Nat → Int → Int → Int → ByteArray → List (S36) → Option (Int)
 | 0, _, _, _, _, _ => none
 | k + 1, x4, x297000, x297001, x297002, x297003 => if x4 < (x297003.length : Int) then (if 0 ≤ x4 then ((cambistref02_Who.f k ((rd_T36 x297003 x4).f0)).bind fun t300 => ((cambistref02_Asset.f k ((rd_T36 x297003 x4).f1)).bind fun t301 => ((cambistref12_zero.f k x297003 ((rd_T36 x297003 x4).f1)).bind fun t302 => (if t300 = true then (if t301 = true then (if ((rd_T36 x297003 x4).f2) = 0 then (some 120) else (if t302 = true then (cambistref12_Check.l0 k (wrap64 (x4 + 1)) x297000 x297001 x297002 x297003) else (some 120))) else (some 120)) else (some 120))))) else (none)) else (some 0)
end
def cambistref12_Check.f (k : Nat) (a0_0 : Int) (a0_1 : Int) (a0_2 : ByteArray) (l0_3 : List (S36)) : Option (Int) := (cambistref02_Word.f k a0_2).bind fun t297 => (if t297 = true then (if (l0_3.length : Int) < 2 then (cambistref12_Check.j0 k true a0_0 a0_1 a0_2 l0_3) else (cambistref12_Check.j0 k (decide ((l0_3.length : Int) > 200)) a0_0 a0_1 a0_2 l0_3)) else (cambistref12_Check.j0 k true a0_0 a0_1 a0_2 l0_3))
theorem cambistref12_Check.mono_l : ∀ k, (∀ y0 y1 y2 y3 y4, LeO (cambistref12_Check.j0 k y0 y1 y2 y3 y4) (cambistref12_Check.j0 (k + 1) y0 y1 y2 y3 y4)) ∧ (∀ y0 y1 y2 y3 y4, LeO (cambistref12_Check.l0 k y0 y1 y2 y3 y4) (cambistref12_Check.l0 (k + 1) y0 y1 y2 y3 y4))
 | 0 => ⟨fun _ _ _ _ _ r h => by simp [cambistref12_Check.j0] at h, fun _ _ _ _ _ r h => by simp [cambistref12_Check.l0] at h⟩
 | k + 1 => by
  obtain ⟨ih0, ih1⟩ := cambistref12_Check.mono_l k
  refine ⟨?_, ?_⟩
  ·intro y0 y1 y2 y3 y4
   unfold cambistref12_Check.j0
   repeat' first
   | (with_reducible exact ih0 _ _ _ _ _)
   | (with_reducible exact ih1 _ _ _ _ _)
   | (with_reducible exact cambistref02_Asset.mono _ _)
   | (with_reducible exact cambistref02_Who.mono _ _)
   | (with_reducible exact cambistref02_Word.mono _ _)
   | (with_reducible exact cambistref12_zero.mono _ _ _)
   | (with_reducible first | exact LeO.refl _ | exact LeO.none _ | refine LeO.ite ?_ ?_ | refine LeO.bind ?_ fun _ => ?_)
   | exact ih0 _ _ _ _ _
   | exact ih1 _ _ _ _ _
   | exact cambistref02_Asset.mono _ _
   | exact cambistref02_Who.mono _ _
   | exact cambistref02_Word.mono _ _
   | exact cambistref12_zero.mono _ _ _
  ·intro y0 y1 y2 y3 y4
   unfold cambistref12_Check.l0
   repeat' first
   | (with_reducible exact ih0 _ _ _ _ _)
   | (with_reducible exact ih1 _ _ _ _ _)
   | (with_reducible exact cambistref02_Asset.mono _ _)
   | (with_reducible exact cambistref02_Who.mono _ _)
   | (with_reducible exact cambistref02_Word.mono _ _)
   | (with_reducible exact cambistref12_zero.mono _ _ _)
   | (with_reducible first | exact LeO.refl _ | exact LeO.none _ | refine LeO.ite ?_ ?_ | refine LeO.bind ?_ fun _ => ?_)
   | exact ih0 _ _ _ _ _
   | exact ih1 _ _ _ _ _
   | exact cambistref02_Asset.mono _ _
   | exact cambistref02_Who.mono _ _
   | exact cambistref02_Word.mono _ _
   | exact cambistref12_zero.mono _ _ _
theorem cambistref12_Check.mono : ∀ a0 a1 a2 a3 k, LeO (cambistref12_Check.f k a0 a1 a2 a3) (cambistref12_Check.f (k + 1) a0 a1 a2 a3) := by
 intro a0 a1 a2 a3 k
 obtain ⟨ih0, ih1⟩ := cambistref12_Check.mono_l k
 unfold cambistref12_Check.f
 repeat' first
   | (with_reducible exact ih0 _ _ _ _ _)
   | (with_reducible exact ih1 _ _ _ _ _)
   | (with_reducible exact cambistref02_Asset.mono _ _)
   | (with_reducible exact cambistref02_Who.mono _ _)
   | (with_reducible exact cambistref02_Word.mono _ _)
   | (with_reducible exact cambistref12_zero.mono _ _ _)
   | (with_reducible first | exact LeO.refl _ | exact LeO.none _ | refine LeO.ite ?_ ?_ | refine LeO.bind ?_ fun _ => ?_)
   | exact ih0 _ _ _ _ _
   | exact ih1 _ _ _ _ _
   | exact cambistref02_Asset.mono _ _
   | exact cambistref02_Who.mono _ _
   | exact cambistref02_Word.mono _ _
   | exact cambistref12_zero.mono _ _ _
set_option maxHeartbeats 8000000 in
set_option maxRecDepth 100000 in
theorem cambistref12_Check.calls (k : Nat) (a0_0 : Int) (a0_1 : Int) (a0_2 : ByteArray) (A0_3 : Option Addr) (c0_3 : Nat) (l0_3 : List (S36)) (r : Int) (w : World) (hG : Glob w) (hr0_3 : Kd.C k36 w A0_3 l0_3.length l0_3) (hc0_3 : l0_3.length ≤ c0_3) (h : cambistref12_Check.f k a0_0 a0_1 a0_2 l0_3 = some r) :
  Calls Tryz.prog 34 #[.agg #[.int .u64 a0_0, .int .u64 a0_1, .string a0_2, .slice A0_3 l0_3.length c0_3]] w fun e w' => e = .returned (.int .i64 r) ∧ Below w.heap.size w w' := by
 have hu39 := Tryz.underlying39
 have hu36 := Tryz.underlying36
 have HG := a_ hG
 clear hG
 have HR0_3 := a_ hr0_3
 have HC0_3 := a_ hc0_3
 clear hr0_3 hc0_3
 have HB := a_ (Below.refl w.heap.size w)
 have H : ((cambistref02_Word.f k a0_2).bind fun t297 => (if t297 = true then (if (l0_3.length : Int) < 2 then (cambistref12_Check.j0 k true a0_0 a0_1 a0_2 l0_3) else (cambistref12_Check.j0 k (decide ((l0_3.length : Int) > 200)) a0_0 a0_1 a0_2 l0_3)) else (cambistref12_Check.j0 k true a0_0 a0_1 a0_2 l0_3))) = some r := h
 clear h
 replace H := Option.bind_eq_some_iff.mp H
 obtain ⟨t297, A20, H⟩ := H
 replace H : (if t297 = true then (if (l0_3.length : Int) < 2 then (cambistref12_Check.j0 k true a0_0 a0_1 a0_2 l0_3) else (cambistref12_Check.j0 k (decide ((l0_3.length : Int) > 200)) a0_0 a0_1 a0_2 l0_3)) else (cambistref12_Check.j0 k true a0_0 a0_1 a0_2 l0_3)) = some r := H
 have A2 := a_ A20
 clear A20
 have HC3 := a_ H
 clear H
 go_enter Tryz.func34, Tryz.ntmps34
 go_upto_region 2 with (first | ((with_reducible refine gate_dst (N := 1) rfl ?_); (try (refine gate_guard (by rfl) ?_; dsimp only)); refine box_event ?hg (N := 1) ?hd (cs := #[.int .u64 a0_0, .int .u64 a0_1, .string a0_2, .slice A0_3 l0_3.length c0_3]) (t := 39) ?hr ?_; (case hd => rfl); (case hg => rfl); (case hr => first | (go_simp; done) | (go_simp; rfl)); intro gb296 hg w4 hbox hb; have n0_ := a_ (below_step z33_ hb); have n1_ := a_ (hbox); have n2_ := a_ ((z20_ : w.heap.size ≤ gb296)); have n3_ := a_ ((z20_ : w.heap.size ≤ gb296)); clear HB; have HB := n0_; have BK296 := n1_; have GW296 := n2_; have GE296 := n3_; clear n0_ n1_ n2_ n3_; clear hb hbox hg; have hcz5_0 : w4.cell? ⟨gb296, 0, none⟩ = some (.int .u64 a0_0) := (blk_cell BK296.out 0).trans rfl; have hcz5_1 : w4.cell? ⟨gb296, 1, none⟩ = some (.int .u64 a0_1) := (blk_cell BK296.out 1).trans rfl; have hcz5_2 : w4.cell? ⟨gb296, 2, none⟩ = some (.string a0_2) := (blk_cell BK296.out 2).trans rfl; have hcz5_3 : w4.cell? ⟨gb296, 3, none⟩ = some (.slice A0_3 l0_3.length c0_3) := (blk_cell BK296.out 3).trans rfl; have hfz5_0 := blk_frozen BK296.out 0; have hfz5_1 := blk_frozen BK296.out 1; have hfz5_2 := blk_frozen BK296.out 2; have hfz5_3 := blk_frozen BK296.out 3) | ((with_reducible refine gate_callee (f := 46) rfl ?_); refine goesL_ (some 11) rfl rfl Tryz.func46 z74_ rfl #[.string a0_2] rfl z19_ ?_; (with_reducible refine (cambistref02_Word.calls k a0_2 t297 _ ?side1 A2.out).mono ?_); (case side1 => exact Glob.below HG.out z27_); rintro e w' ⟨rfl, ⟨nd, rfl⟩⟩; refine ⟨_, rfl, ?_⟩))
 (try simp only [Act.put, sT_, s0_, sS_])
 go_cut [25] (fun v25 wc => ∃ (kq : Nat) (x25_2 : Bool), v25 = .bool x25_2 ∧ Aside0 (cambistref12_Check.j0 kq x25_2 a0_0 a0_1 a0_2 l0_3 = some r) ∧ Aside0 (kq ≤ k) ∧ Aside0 (wc.heap[gb296]? = some (.cells #[.int .u64 a0_0, .int .u64 a0_1, .string a0_2, (.slice A0_3 l0_3.length c0_3)] 39 (0, 0))) ∧ Aside0 (Below w.heap.size w wc))
 case first =>
  have H := HC3.out
  clear HC3
  by_cases c6 : t297 = true
  ·subst c6
   have H1 : (if (l0_3.length : Int) < 2 then (cambistref12_Check.j0 k true a0_0 a0_1 a0_2 l0_3) else (cambistref12_Check.j0 k (decide ((l0_3.length : Int) > 200)) a0_0 a0_1 a0_2 l0_3)) = some r := by rw [if_pos rfl] at H; exact H
   clear H
   have H := H1
   clear H1
   by_cases c7 : (l0_3.length : Int) < 2
   ·rw [if_pos c7] at H
    have c7b0 : decide ((l0_3.length : Int) < 2) = true := decide_eq_true c7
    have c7b1 : decide (l0_3.length < 2) = true := decide_eq_true (by omega)
    clear c7
    (first | rw [c7b0] | (simp only [i64_w, i32_w]; rw [c7b0]) | skip)
    have H' := a_ H
    clear H
    have hcz8_0 : w4.cell? ⟨gb296, 0, none⟩ = some (.int .u64 a0_0) := (blk_cell BK296.out 0).trans rfl
    have hcz8_1 : w4.cell? ⟨gb296, 1, none⟩ = some (.int .u64 a0_1) := (blk_cell BK296.out 1).trans rfl
    have hcz8_2 : w4.cell? ⟨gb296, 2, none⟩ = some (.string a0_2) := (blk_cell BK296.out 2).trans rfl
    have hcz8_3 : w4.cell? ⟨gb296, 3, none⟩ = some (.slice A0_3 l0_3.length c0_3) := (blk_cell BK296.out 3).trans rfl
    have hfz8_0 := blk_frozen BK296.out 0
    have hfz8_1 := blk_frozen BK296.out 1
    have hfz8_2 := blk_frozen BK296.out 2
    have hfz8_3 := blk_frozen BK296.out 3
    go_wp2
    go_meet
    case rel => exact ⟨_, (true), z71_, H', ⟨z72_⟩, ⟨z59_⟩, ⟨z27_⟩⟩
   ·rw [if_neg c7] at H
    have c7b0 : decide ((l0_3.length : Int) < 2) = false := decide_eq_false c7
    have c7b1 : decide (l0_3.length < 2) = false := decide_eq_false (by omega)
    clear c7
    (first | rw [c7b0] | (simp only [i64_w, i32_w]; rw [c7b0]) | skip)
    have H' := a_ H
    clear H
    have hcz9_0 : w4.cell? ⟨gb296, 0, none⟩ = some (.int .u64 a0_0) := (blk_cell BK296.out 0).trans rfl
    have hcz9_1 : w4.cell? ⟨gb296, 1, none⟩ = some (.int .u64 a0_1) := (blk_cell BK296.out 1).trans rfl
    have hcz9_2 : w4.cell? ⟨gb296, 2, none⟩ = some (.string a0_2) := (blk_cell BK296.out 2).trans rfl
    have hcz9_3 : w4.cell? ⟨gb296, 3, none⟩ = some (.slice A0_3 l0_3.length c0_3) := (blk_cell BK296.out 3).trans rfl
    have hfz9_0 := blk_frozen BK296.out 0
    have hfz9_1 := blk_frozen BK296.out 1
    have hfz9_2 := blk_frozen BK296.out 2
    have hfz9_3 := blk_frozen BK296.out 3
    go_wp2
    go_meet
    case rel => exact ⟨_, (decide ((l0_3.length : Int) > 200)), z71_, H', ⟨z72_⟩, ⟨z59_⟩, ⟨z27_⟩⟩
  ·replace c6 := Bool.eq_false_iff.mpr c6
   subst c6
   have H1 : (cambistref12_Check.j0 k true a0_0 a0_1 a0_2 l0_3) = some r := by rw [if_neg (show ¬ (false = true) by decide)] at H; exact H
   clear H
   have H := H1
   clear H1
   have H' := a_ H
   clear H
   go_wp2
   go_meet
   case rel => exact ⟨_, (true), z71_, H', ⟨z72_⟩, ⟨z59_⟩, ⟨z27_⟩⟩
 case rest =>
  clear HC3
  try clear p2
  try clear c3
  try clear c4
  try clear c6
  try clear c7
  try clear c7b0
  try clear c7b1
  try clear hcz5_0
  try clear hcz5_1
  try clear hcz5_2
  try clear hcz5_3
  try clear hcz8_0
  try clear hcz8_1
  try clear hcz8_2
  try clear hcz8_3
  try clear hcz9_0
  try clear hcz9_1
  try clear hcz9_2
  try clear hcz9_3
  try clear hfz5_0
  try clear hfz5_1
  try clear hfz5_2
  try clear hfz5_3
  try clear hfz8_0
  try clear hfz8_1
  try clear hfz8_2
  try clear hfz8_3
  try clear hfz9_0
  try clear hfz9_1
  try clear hfz9_2
  try clear hfz9_3
  obtain ⟨kq, x25_2, rfl, HA, HJ2, BK296, HB⟩ := hcut
  cases kq with
  | zero => exact absurd HA.out (by simp [cambistref12_Check.j0])
  | succ kj2 =>
   have H := HA.out
   clear HA
   simp only [cambistref12_Check.j0] at H
   by_cases c10 : x25_2 = true
   ·subst c10
    have H1 : (some 120) = some r := by rw [if_pos rfl] at H; exact H
    clear H
    have H := H1
    clear H1
    obtain rfl := Option.some.inj H
    go_wp2
    go_ret
    exact ⟨z64_, z27_⟩
   ·replace c10 := Bool.eq_false_iff.mpr c10
    subst c10
    have H1 : (cambistref12_Check.l0 kj2 0 a0_0 a0_1 a0_2 l0_3) = some r := by rw [if_neg (show ¬ (false = true) by decide)] at H; exact H
    clear H
    have H := H1
    clear H1
    have H' := a_ H
    clear H
    go_wp2
    go_loopg [4] kj2 (fun kq v4 w' => ∃ (x4_2 : Int), v4 = .int .i64 x4_2 ∧ Aside0 (cambistref12_Check.l0 kq x4_2 a0_0 a0_1 a0_2 l0_3 = some r) ∧ Aside0 (kq ≤ kj2) ∧ Aside0 (w'.heap[gb296]? = some (.cells #[.int .u64 a0_0, .int .u64 a0_1, .string a0_2, (.slice A0_3 l0_3.length c0_3)] 39 (0, 0))) ∧ Aside0 (Below w.heap.size w w'))
    case atStart => exact ⟨(0), z71_, H', ⟨Nat.le_refl _⟩, ⟨z59_⟩, ⟨z27_⟩⟩
    case round =>
     clear H'
     try clear c1
     try clear p2
     try clear c3
     try clear c4
     try clear c6
     try clear c7
     try clear c7b0
     try clear c7b1
     try clear c10
     try clear hcz5_0
     try clear hcz5_1
     try clear hcz5_2
     try clear hcz5_3
     try clear hcz8_0
     try clear hcz8_1
     try clear hcz8_2
     try clear hcz8_3
     try clear hcz9_0
     try clear hcz9_1
     try clear hcz9_2
     try clear hcz9_3
     try clear hfz5_0
     try clear hfz5_1
     try clear hfz5_2
     try clear hfz5_3
     try clear hfz8_0
     try clear hfz8_1
     try clear hfz8_2
     try clear hfz8_3
     try clear hfz9_0
     try clear hfz9_1
     try clear hfz9_2
     try clear hfz9_3
     try clear p2
     obtain ⟨x4_2, rfl, HA, HK2, BK296, HB⟩ := hrel
     cases gk with
     | zero => exact absurd HA.out (by simp [cambistref12_Check.l0])
     | succ k2 =>
      have H := HA.out
      clear HA
      simp only [cambistref12_Check.l0] at H
      by_cases c11 : x4_2 < (l0_3.length : Int)
      ·rw [if_pos c11] at H
       have c11b0 : decide (x4_2 < (l0_3.length : Int)) = true := decide_eq_true c11
       clear c11
       by_cases c12 : 0 ≤ x4_2
       ·rw [if_pos c12] at H
        have c12b0 : decide (0 ≤ x4_2) = true := decide_eq_true c12
        clear c12
        replace H := Option.bind_eq_some_iff.mp H
        obtain ⟨t300, A130, H⟩ := H
        replace H : ((cambistref02_Asset.f k2 ((rd_T36 l0_3 x4_2).f1)).bind fun t301 => ((cambistref12_zero.f k2 l0_3 ((rd_T36 l0_3 x4_2).f1)).bind fun t302 => (if t300 = true then (if t301 = true then (if ((rd_T36 l0_3 x4_2).f2) = 0 then (some 120) else (if t302 = true then (cambistref12_Check.l0 k2 (wrap64 (x4_2 + 1)) a0_0 a0_1 a0_2 l0_3) else (some 120))) else (some 120)) else (some 120)))) = some r := H
        have A13 := a_ A130
        clear A130
        replace H := Option.bind_eq_some_iff.mp H
        obtain ⟨t301, A140, H⟩ := H
        replace H : ((cambistref12_zero.f k2 l0_3 ((rd_T36 l0_3 x4_2).f1)).bind fun t302 => (if t300 = true then (if t301 = true then (if ((rd_T36 l0_3 x4_2).f2) = 0 then (some 120) else (if t302 = true then (cambistref12_Check.l0 k2 (wrap64 (x4_2 + 1)) a0_0 a0_1 a0_2 l0_3) else (some 120))) else (some 120)) else (some 120))) = some r := H
        have A14 := a_ A140
        clear A140
        replace H := Option.bind_eq_some_iff.mp H
        obtain ⟨t302, A150, H⟩ := H
        replace H : (if t300 = true then (if t301 = true then (if ((rd_T36 l0_3 x4_2).f2) = 0 then (some 120) else (if t302 = true then (cambistref12_Check.l0 k2 (wrap64 (x4_2 + 1)) a0_0 a0_1 a0_2 l0_3) else (some 120))) else (some 120)) else (some 120)) = some r := H
        have A15 := a_ A150
        clear A150
        by_cases c16 : t300 = true
        ·subst c16
         have H1 : (if t301 = true then (if ((rd_T36 l0_3 x4_2).f2) = 0 then (some 120) else (if t302 = true then (cambistref12_Check.l0 k2 (wrap64 (x4_2 + 1)) a0_0 a0_1 a0_2 l0_3) else (some 120))) else (some 120)) = some r := by rw [if_pos rfl] at H; exact H
         clear H
         have H := H1
         clear H1
         by_cases c17 : t301 = true
         ·subst c17
          have H1 : (if ((rd_T36 l0_3 x4_2).f2) = 0 then (some 120) else (if t302 = true then (cambistref12_Check.l0 k2 (wrap64 (x4_2 + 1)) a0_0 a0_1 a0_2 l0_3) else (some 120))) = some r := by rw [if_pos rfl] at H; exact H
          clear H
          have H := H1
          clear H1
          by_cases c18 : ((rd_T36 l0_3 x4_2).f2) = 0
          ·rw [if_pos c18] at H
           have c18b0 : (((rd_T36 l0_3 x4_2).f2) == 0) = true := beq_iff_eq.mpr c18
           have c18b1 : (((rd_T36 l0_3 x4_2).f2) != 0) = false := bne_eq_false_iff_eq.mpr c18
           clear c18
           obtain rfl := Option.some.inj H
           have hcz19_0 : wr.cell? ⟨gb296, 0, none⟩ = some (.int .u64 a0_0) := (blk_cell BK296.out 0).trans rfl
           have hcz19_1 : wr.cell? ⟨gb296, 1, none⟩ = some (.int .u64 a0_1) := (blk_cell BK296.out 1).trans rfl
           have hcz19_2 : wr.cell? ⟨gb296, 2, none⟩ = some (.string a0_2) := (blk_cell BK296.out 2).trans rfl
           have hcz19_3 : wr.cell? ⟨gb296, 3, none⟩ = some (.slice A0_3 l0_3.length c0_3) := (blk_cell BK296.out 3).trans rfl
           have hfz19_0 := blk_frozen BK296.out 0
           have hfz19_1 := blk_frozen BK296.out 1
           have hfz19_2 := blk_frozen BK296.out 2
           have hfz19_3 := blk_frozen BK296.out 3
           have p298 : 0 ≤ (x4_2 : Int) := of_decide_eq_true z70_
           have q298 : x4_2 < (l0_3.length : Int) := of_decide_eq_true z70_
           obtain ⟨ad298, e298, hx298_0, hx298_1, hx298_2⟩ := at_T36 HR0_3.out x4_2 p298 q298
           cases e298
           replace hx298_0 := (HB.out.cell (World.block_lt_of_cell? w _ hx298_0)).trans hx298_0
           replace hx298_1 := (HB.out.cell (World.block_lt_of_cell? w _ hx298_1)).trans hx298_1
           replace hx298_2 := (HB.out.cell (World.block_lt_of_cell? w _ hx298_2)).trans hx298_2
           replace p298 := eq_true p298
           replace q298 := eq_true q298
           go_wp2_with (first | ((with_reducible refine gate_dst (N := 5) rfl ?_); (try (refine gate_guard (by rfl) ?_; dsimp only)); refine box_event ?hg (N := 5) ?hd (cs := #[.string (⟨#[]⟩ : ByteArray), .string (⟨#[]⟩ : ByteArray), .int .i64 0]) (t := 36) ?hr ?_; (case hd => rfl); (case hg => rfl); (case hr => first | (go_simp; done) | (go_simp; rfl)); intro gb299 hg w20 hbox hb; have n0_ := a_ (blk_below (g := gb296) (o := .cells #[.int .u64 a0_0, .int .u64 a0_1, .string a0_2, .slice (some ad298) l0_3.length c0_3] 39 (0, 0)) z59_ hb); have n1_ := a_ (below_step z27_ hb); have n2_ := a_ (hbox); have n3_ := a_ ((z10_ : w.heap.size ≤ gb299)); have n4_ := a_ ((z10_ : w.heap.size ≤ gb299)); have n5_ := a_ ((by rw [hg]; exact Nat.ne_of_lt (blk_lt (g := gb296) (o := .cells #[.int .u64 a0_0, .int .u64 a0_1, .string a0_2, .slice (some ad298) l0_3.length c0_3] 39 (0, 0)) z59_) : gb296 ≠ gb299)); have n6_ := a_ ((by rw [hg]; exact Nat.ne_of_gt (blk_lt (g := gb296) (o := .cells #[.int .u64 a0_0, .int .u64 a0_1, .string a0_2, .slice (some ad298) l0_3.length c0_3] 39 (0, 0)) z59_) : gb299 ≠ gb296)); clear BK296; clear HB; have BK296 := n0_; have HB := n1_; have BK299 := n2_; have GW299 := n3_; have GE299 := n4_; have NB296_299 := n5_; have NB299_296 := n6_; clear n0_ n1_ n2_ n3_ n4_ n5_ n6_; clear hb hbox hg; have hnb21 := NB299_296.out; have hnc21 := NB296_299.out; have hcz22_0 : w20.cell? ⟨gb299, 0, none⟩ = some (.string (⟨#[]⟩ : ByteArray)) := (blk_cell BK299.out 0).trans rfl; have hcz22_1 : w20.cell? ⟨gb299, 1, none⟩ = some (.string (⟨#[]⟩ : ByteArray)) := (blk_cell BK299.out 1).trans rfl; have hcz22_2 : w20.cell? ⟨gb299, 2, none⟩ = some (.int .i64 0) := (blk_cell BK299.out 2).trans rfl; have hfz22_0 := blk_frozen BK299.out 0; have hfz22_1 := blk_frozen BK299.out 1; have hfz22_2 := blk_frozen BK299.out 2) | ((with_reducible refine gate_callee (f := 47) rfl ?_); refine goesL_ (some 40) rfl rfl Tryz.func47 z74_ rfl #[.string ((rd_T36 l0_3 x4_2).f0)] rfl z19_ ?_; (with_reducible refine (cambistref02_Who.calls k2 ((rd_T36 l0_3 x4_2).f0) true _ ?side1 A13.out).mono ?_); (case side1 => exact Glob.below HG.out z15_); rintro e w' ⟨rfl, ⟨nd, rfl⟩⟩; refine ⟨_, rfl, ?_⟩) | ((with_reducible refine gate_callee (f := 48) rfl ?_); refine goesL_ (some 43) rfl rfl Tryz.func48 z74_ rfl #[.string ((rd_T36 l0_3 x4_2).f1)] rfl z19_ ?_; (with_reducible refine (cambistref02_Asset.calls k2 ((rd_T36 l0_3 x4_2).f1) true _ ?side1 A14.out).mono ?_); (case side1 => exact Glob.below HG.out z15_); rintro e w' ⟨rfl, ⟨nd, rfl⟩⟩; refine ⟨_, rfl, ?_⟩; have hcz23_0 : w20.cell? ⟨gb296, 0, none⟩ = some (.int .u64 a0_0) := (blk_cell BK296.out 0).trans rfl; have hcz23_1 : w20.cell? ⟨gb296, 1, none⟩ = some (.int .u64 a0_1) := (blk_cell BK296.out 1).trans rfl; have hcz23_2 : w20.cell? ⟨gb296, 2, none⟩ = some (.string a0_2) := (blk_cell BK296.out 2).trans rfl; have hcz23_3 : w20.cell? ⟨gb296, 3, none⟩ = some (.slice (some ad298) l0_3.length c0_3) := (blk_cell BK296.out 3).trans rfl; have hfz23_0 := blk_frozen BK296.out 0; have hfz23_1 := blk_frozen BK296.out 1; have hfz23_2 := blk_frozen BK296.out 2; have hfz23_3 := blk_frozen BK296.out 3) | ((with_reducible refine gate_callee (f := 49) rfl ?_); refine goesL_ (some 48) rfl rfl Tryz.func49 z74_ rfl #[.slice (some ad298) l0_3.length c0_3, .string ((rd_T36 l0_3 x4_2).f1)] rfl z19_ ?_; (with_reducible refine (cambistref12_zero.calls k2 _ _ l0_3 ((rd_T36 l0_3 x4_2).f1) t302 _ ?side1 ?side2 ?side3 A15.out).mono ?_); (case side1 => exact Glob.below HG.out z15_); (case side2 => exact Kd.C_below HR0_3.out z15_); (case side3 => exact HC0_3.out); rintro e w24 ⟨rfl, hb⟩; refine ⟨_, rfl, ?_⟩; have n0_ := a_ (blk_below (g := gb296) (o := .cells #[.int .u64 a0_0, .int .u64 a0_1, .string a0_2, .slice (some ad298) l0_3.length c0_3] 39 (0, 0)) z3_ hb); have n1_ := a_ (blk_below (g := gb299) (o := .cells #[.string ((rd_T36 l0_3 x4_2).f0), .string ((rd_T36 l0_3 x4_2).f1), .int .i64 ((rd_T36 l0_3 x4_2).f2)] 36 (0, 0)) z1_ hb); have n2_ := a_ (below_step z15_ hb); clear BK296; clear BK299; clear HB; have BK296 := n0_; have BK299 := n1_; have HB := n2_; clear n0_ n1_ n2_; (try clear hb); (try clear hb2); (try clear hk); (try clear hi); have hcz25_0 : w24.cell? ⟨gb299, 0, none⟩ = some (.string ((rd_T36 l0_3 x4_2).f0)) := (blk_cell BK299.out 0).trans rfl; have hcz25_1 : w24.cell? ⟨gb299, 1, none⟩ = some (.string ((rd_T36 l0_3 x4_2).f1)) := (blk_cell BK299.out 1).trans rfl; have hcz25_2 : w24.cell? ⟨gb299, 2, none⟩ = some (.int .i64 ((rd_T36 l0_3 x4_2).f2)) := (blk_cell BK299.out 2).trans rfl; have hfz25_0 := blk_frozen BK299.out 0; have hfz25_1 := blk_frozen BK299.out 1; have hfz25_2 := blk_frozen BK299.out 2))
           go_ret
           exact ⟨z64_, z15_⟩
          ·rw [if_neg c18] at H
           have c18b0 : (((rd_T36 l0_3 x4_2).f2) == 0) = false := beq_eq_false_iff_ne.mpr c18
           have c18b1 : (((rd_T36 l0_3 x4_2).f2) != 0) = true := bne_iff_ne.mpr c18
           by_cases c26 : t302 = true
           ·subst c26
            have H1 : (cambistref12_Check.l0 k2 (wrap64 (x4_2 + 1)) a0_0 a0_1 a0_2 l0_3) = some r := by rw [if_pos rfl] at H; exact H
            clear H
            have H := H1
            clear H1
            have H' := a_ H
            clear H
            have hcz27_0 : wr.cell? ⟨gb296, 0, none⟩ = some (.int .u64 a0_0) := (blk_cell BK296.out 0).trans rfl
            have hcz27_1 : wr.cell? ⟨gb296, 1, none⟩ = some (.int .u64 a0_1) := (blk_cell BK296.out 1).trans rfl
            have hcz27_2 : wr.cell? ⟨gb296, 2, none⟩ = some (.string a0_2) := (blk_cell BK296.out 2).trans rfl
            have hcz27_3 : wr.cell? ⟨gb296, 3, none⟩ = some (.slice A0_3 l0_3.length c0_3) := (blk_cell BK296.out 3).trans rfl
            have hfz27_0 := blk_frozen BK296.out 0
            have hfz27_1 := blk_frozen BK296.out 1
            have hfz27_2 := blk_frozen BK296.out 2
            have hfz27_3 := blk_frozen BK296.out 3
            have p298 : 0 ≤ (x4_2 : Int) := of_decide_eq_true z70_
            have q298 : x4_2 < (l0_3.length : Int) := of_decide_eq_true z70_
            obtain ⟨ad298, e298, hx298_0, hx298_1, hx298_2⟩ := at_T36 HR0_3.out x4_2 p298 q298
            cases e298
            replace hx298_0 := (HB.out.cell (World.block_lt_of_cell? w _ hx298_0)).trans hx298_0
            replace hx298_1 := (HB.out.cell (World.block_lt_of_cell? w _ hx298_1)).trans hx298_1
            replace hx298_2 := (HB.out.cell (World.block_lt_of_cell? w _ hx298_2)).trans hx298_2
            replace p298 := eq_true p298
            replace q298 := eq_true q298
            go_wp2_with (first | ((with_reducible refine gate_dst (N := 5) rfl ?_); (try (refine gate_guard (by rfl) ?_; dsimp only)); refine box_event ?hg (N := 5) ?hd (cs := #[.string (⟨#[]⟩ : ByteArray), .string (⟨#[]⟩ : ByteArray), .int .i64 0]) (t := 36) ?hr ?_; (case hd => rfl); (case hg => rfl); (case hr => first | (go_simp; done) | (go_simp; rfl)); intro gb299 hg w28 hbox hb; have n0_ := a_ (blk_below (g := gb296) (o := .cells #[.int .u64 a0_0, .int .u64 a0_1, .string a0_2, .slice (some ad298) l0_3.length c0_3] 39 (0, 0)) z59_ hb); have n1_ := a_ (below_step z27_ hb); have n2_ := a_ (hbox); have n3_ := a_ ((z10_ : w.heap.size ≤ gb299)); have n4_ := a_ ((z10_ : w.heap.size ≤ gb299)); have n5_ := a_ ((by rw [hg]; exact Nat.ne_of_lt (blk_lt (g := gb296) (o := .cells #[.int .u64 a0_0, .int .u64 a0_1, .string a0_2, .slice (some ad298) l0_3.length c0_3] 39 (0, 0)) z59_) : gb296 ≠ gb299)); have n6_ := a_ ((by rw [hg]; exact Nat.ne_of_gt (blk_lt (g := gb296) (o := .cells #[.int .u64 a0_0, .int .u64 a0_1, .string a0_2, .slice (some ad298) l0_3.length c0_3] 39 (0, 0)) z59_) : gb299 ≠ gb296)); clear BK296; clear HB; have BK296 := n0_; have HB := n1_; have BK299 := n2_; have GW299 := n3_; have GE299 := n4_; have NB296_299 := n5_; have NB299_296 := n6_; clear n0_ n1_ n2_ n3_ n4_ n5_ n6_; clear hb hbox hg; have hnb29 := NB299_296.out; have hnc29 := NB296_299.out; have hcz30_0 : w28.cell? ⟨gb299, 0, none⟩ = some (.string (⟨#[]⟩ : ByteArray)) := (blk_cell BK299.out 0).trans rfl; have hcz30_1 : w28.cell? ⟨gb299, 1, none⟩ = some (.string (⟨#[]⟩ : ByteArray)) := (blk_cell BK299.out 1).trans rfl; have hcz30_2 : w28.cell? ⟨gb299, 2, none⟩ = some (.int .i64 0) := (blk_cell BK299.out 2).trans rfl; have hfz30_0 := blk_frozen BK299.out 0; have hfz30_1 := blk_frozen BK299.out 1; have hfz30_2 := blk_frozen BK299.out 2) | ((with_reducible refine gate_callee (f := 47) rfl ?_); refine goesL_ (some 40) rfl rfl Tryz.func47 z74_ rfl #[.string ((rd_T36 l0_3 x4_2).f0)] rfl z19_ ?_; (with_reducible refine (cambistref02_Who.calls k2 ((rd_T36 l0_3 x4_2).f0) true _ ?side1 A13.out).mono ?_); (case side1 => exact Glob.below HG.out z15_); rintro e w' ⟨rfl, ⟨nd, rfl⟩⟩; refine ⟨_, rfl, ?_⟩) | ((with_reducible refine gate_callee (f := 48) rfl ?_); refine goesL_ (some 43) rfl rfl Tryz.func48 z74_ rfl #[.string ((rd_T36 l0_3 x4_2).f1)] rfl z19_ ?_; (with_reducible refine (cambistref02_Asset.calls k2 ((rd_T36 l0_3 x4_2).f1) true _ ?side1 A14.out).mono ?_); (case side1 => exact Glob.below HG.out z15_); rintro e w' ⟨rfl, ⟨nd, rfl⟩⟩; refine ⟨_, rfl, ?_⟩; have hcz31_0 : w28.cell? ⟨gb296, 0, none⟩ = some (.int .u64 a0_0) := (blk_cell BK296.out 0).trans rfl; have hcz31_1 : w28.cell? ⟨gb296, 1, none⟩ = some (.int .u64 a0_1) := (blk_cell BK296.out 1).trans rfl; have hcz31_2 : w28.cell? ⟨gb296, 2, none⟩ = some (.string a0_2) := (blk_cell BK296.out 2).trans rfl; have hcz31_3 : w28.cell? ⟨gb296, 3, none⟩ = some (.slice (some ad298) l0_3.length c0_3) := (blk_cell BK296.out 3).trans rfl; have hfz31_0 := blk_frozen BK296.out 0; have hfz31_1 := blk_frozen BK296.out 1; have hfz31_2 := blk_frozen BK296.out 2; have hfz31_3 := blk_frozen BK296.out 3) | ((with_reducible refine gate_callee (f := 49) rfl ?_); refine goesL_ (some 48) rfl rfl Tryz.func49 z74_ rfl #[.slice (some ad298) l0_3.length c0_3, .string ((rd_T36 l0_3 x4_2).f1)] rfl z19_ ?_; (with_reducible refine (cambistref12_zero.calls k2 _ _ l0_3 ((rd_T36 l0_3 x4_2).f1) true _ ?side1 ?side2 ?side3 A15.out).mono ?_); (case side1 => exact Glob.below HG.out z15_); (case side2 => exact Kd.C_below HR0_3.out z15_); (case side3 => exact HC0_3.out); rintro e w32 ⟨rfl, hb⟩; refine ⟨_, rfl, ?_⟩; have n0_ := a_ (blk_below (g := gb296) (o := .cells #[.int .u64 a0_0, .int .u64 a0_1, .string a0_2, .slice (some ad298) l0_3.length c0_3] 39 (0, 0)) z3_ hb); have n1_ := a_ (blk_below (g := gb299) (o := .cells #[.string ((rd_T36 l0_3 x4_2).f0), .string ((rd_T36 l0_3 x4_2).f1), .int .i64 ((rd_T36 l0_3 x4_2).f2)] 36 (0, 0)) z1_ hb); have n2_ := a_ (below_step z15_ hb); clear BK296; clear BK299; clear HB; have BK296 := n0_; have BK299 := n1_; have HB := n2_; clear n0_ n1_ n2_; (try clear hb); (try clear hb2); (try clear hk); (try clear hi); have hcz33_0 : w32.cell? ⟨gb299, 0, none⟩ = some (.string ((rd_T36 l0_3 x4_2).f0)) := (blk_cell BK299.out 0).trans rfl; have hcz33_1 : w32.cell? ⟨gb299, 1, none⟩ = some (.string ((rd_T36 l0_3 x4_2).f1)) := (blk_cell BK299.out 1).trans rfl; have hcz33_2 : w32.cell? ⟨gb299, 2, none⟩ = some (.int .i64 ((rd_T36 l0_3 x4_2).f2)) := (blk_cell BK299.out 2).trans rfl; have hfz33_0 := blk_frozen BK299.out 0; have hfz33_1 := blk_frozen BK299.out 1; have hfz33_2 := blk_frozen BK299.out 2))
            go_roundg k2
            case measure => have := HJ2.out; have := HK2.out; omega
            case rel => exact ⟨(wrap64 (x4_2 + 1)), z71_, H', ⟨by have := HJ2.out; have := HK2.out; omega⟩, ⟨z59_⟩, ⟨z15_⟩⟩
           ·replace c26 := Bool.eq_false_iff.mpr c26
            subst c26
            have H1 : (some 120) = some r := by rw [if_neg (show ¬ (false = true) by decide)] at H; exact H
            clear H
            have H := H1
            clear H1
            obtain rfl := Option.some.inj H
            have hcz34_0 : wr.cell? ⟨gb296, 0, none⟩ = some (.int .u64 a0_0) := (blk_cell BK296.out 0).trans rfl
            have hcz34_1 : wr.cell? ⟨gb296, 1, none⟩ = some (.int .u64 a0_1) := (blk_cell BK296.out 1).trans rfl
            have hcz34_2 : wr.cell? ⟨gb296, 2, none⟩ = some (.string a0_2) := (blk_cell BK296.out 2).trans rfl
            have hcz34_3 : wr.cell? ⟨gb296, 3, none⟩ = some (.slice A0_3 l0_3.length c0_3) := (blk_cell BK296.out 3).trans rfl
            have hfz34_0 := blk_frozen BK296.out 0
            have hfz34_1 := blk_frozen BK296.out 1
            have hfz34_2 := blk_frozen BK296.out 2
            have hfz34_3 := blk_frozen BK296.out 3
            have p298 : 0 ≤ (x4_2 : Int) := of_decide_eq_true z70_
            have q298 : x4_2 < (l0_3.length : Int) := of_decide_eq_true z70_
            obtain ⟨ad298, e298, hx298_0, hx298_1, hx298_2⟩ := at_T36 HR0_3.out x4_2 p298 q298
            cases e298
            replace hx298_0 := (HB.out.cell (World.block_lt_of_cell? w _ hx298_0)).trans hx298_0
            replace hx298_1 := (HB.out.cell (World.block_lt_of_cell? w _ hx298_1)).trans hx298_1
            replace hx298_2 := (HB.out.cell (World.block_lt_of_cell? w _ hx298_2)).trans hx298_2
            replace p298 := eq_true p298
            replace q298 := eq_true q298
            go_wp2_with (first | ((with_reducible refine gate_dst (N := 5) rfl ?_); (try (refine gate_guard (by rfl) ?_; dsimp only)); refine box_event ?hg (N := 5) ?hd (cs := #[.string (⟨#[]⟩ : ByteArray), .string (⟨#[]⟩ : ByteArray), .int .i64 0]) (t := 36) ?hr ?_; (case hd => rfl); (case hg => rfl); (case hr => first | (go_simp; done) | (go_simp; rfl)); intro gb299 hg w35 hbox hb; have n0_ := a_ (blk_below (g := gb296) (o := .cells #[.int .u64 a0_0, .int .u64 a0_1, .string a0_2, .slice (some ad298) l0_3.length c0_3] 39 (0, 0)) z59_ hb); have n1_ := a_ (below_step z27_ hb); have n2_ := a_ (hbox); have n3_ := a_ ((z10_ : w.heap.size ≤ gb299)); have n4_ := a_ ((z10_ : w.heap.size ≤ gb299)); have n5_ := a_ ((by rw [hg]; exact Nat.ne_of_lt (blk_lt (g := gb296) (o := .cells #[.int .u64 a0_0, .int .u64 a0_1, .string a0_2, .slice (some ad298) l0_3.length c0_3] 39 (0, 0)) z59_) : gb296 ≠ gb299)); have n6_ := a_ ((by rw [hg]; exact Nat.ne_of_gt (blk_lt (g := gb296) (o := .cells #[.int .u64 a0_0, .int .u64 a0_1, .string a0_2, .slice (some ad298) l0_3.length c0_3] 39 (0, 0)) z59_) : gb299 ≠ gb296)); clear BK296; clear HB; have BK296 := n0_; have HB := n1_; have BK299 := n2_; have GW299 := n3_; have GE299 := n4_; have NB296_299 := n5_; have NB299_296 := n6_; clear n0_ n1_ n2_ n3_ n4_ n5_ n6_; clear hb hbox hg; have hnb36 := NB299_296.out; have hnc36 := NB296_299.out; have hcz37_0 : w35.cell? ⟨gb299, 0, none⟩ = some (.string (⟨#[]⟩ : ByteArray)) := (blk_cell BK299.out 0).trans rfl; have hcz37_1 : w35.cell? ⟨gb299, 1, none⟩ = some (.string (⟨#[]⟩ : ByteArray)) := (blk_cell BK299.out 1).trans rfl; have hcz37_2 : w35.cell? ⟨gb299, 2, none⟩ = some (.int .i64 0) := (blk_cell BK299.out 2).trans rfl; have hfz37_0 := blk_frozen BK299.out 0; have hfz37_1 := blk_frozen BK299.out 1; have hfz37_2 := blk_frozen BK299.out 2) | ((with_reducible refine gate_callee (f := 47) rfl ?_); refine goesL_ (some 40) rfl rfl Tryz.func47 z74_ rfl #[.string ((rd_T36 l0_3 x4_2).f0)] rfl z19_ ?_; (with_reducible refine (cambistref02_Who.calls k2 ((rd_T36 l0_3 x4_2).f0) true _ ?side1 A13.out).mono ?_); (case side1 => exact Glob.below HG.out z15_); rintro e w' ⟨rfl, ⟨nd, rfl⟩⟩; refine ⟨_, rfl, ?_⟩) | ((with_reducible refine gate_callee (f := 48) rfl ?_); refine goesL_ (some 43) rfl rfl Tryz.func48 z74_ rfl #[.string ((rd_T36 l0_3 x4_2).f1)] rfl z19_ ?_; (with_reducible refine (cambistref02_Asset.calls k2 ((rd_T36 l0_3 x4_2).f1) true _ ?side1 A14.out).mono ?_); (case side1 => exact Glob.below HG.out z15_); rintro e w' ⟨rfl, ⟨nd, rfl⟩⟩; refine ⟨_, rfl, ?_⟩; have hcz38_0 : w35.cell? ⟨gb296, 0, none⟩ = some (.int .u64 a0_0) := (blk_cell BK296.out 0).trans rfl; have hcz38_1 : w35.cell? ⟨gb296, 1, none⟩ = some (.int .u64 a0_1) := (blk_cell BK296.out 1).trans rfl; have hcz38_2 : w35.cell? ⟨gb296, 2, none⟩ = some (.string a0_2) := (blk_cell BK296.out 2).trans rfl; have hcz38_3 : w35.cell? ⟨gb296, 3, none⟩ = some (.slice (some ad298) l0_3.length c0_3) := (blk_cell BK296.out 3).trans rfl; have hfz38_0 := blk_frozen BK296.out 0; have hfz38_1 := blk_frozen BK296.out 1; have hfz38_2 := blk_frozen BK296.out 2; have hfz38_3 := blk_frozen BK296.out 3) | ((with_reducible refine gate_callee (f := 49) rfl ?_); refine goesL_ (some 48) rfl rfl Tryz.func49 z74_ rfl #[.slice (some ad298) l0_3.length c0_3, .string ((rd_T36 l0_3 x4_2).f1)] rfl z19_ ?_; (with_reducible refine (cambistref12_zero.calls k2 _ _ l0_3 ((rd_T36 l0_3 x4_2).f1) false _ ?side1 ?side2 ?side3 A15.out).mono ?_); (case side1 => exact Glob.below HG.out z15_); (case side2 => exact Kd.C_below HR0_3.out z15_); (case side3 => exact HC0_3.out); rintro e w39 ⟨rfl, hb⟩; refine ⟨_, rfl, ?_⟩; have n0_ := a_ (blk_below (g := gb296) (o := .cells #[.int .u64 a0_0, .int .u64 a0_1, .string a0_2, .slice (some ad298) l0_3.length c0_3] 39 (0, 0)) z3_ hb); have n1_ := a_ (blk_below (g := gb299) (o := .cells #[.string ((rd_T36 l0_3 x4_2).f0), .string ((rd_T36 l0_3 x4_2).f1), .int .i64 ((rd_T36 l0_3 x4_2).f2)] 36 (0, 0)) z1_ hb); have n2_ := a_ (below_step z15_ hb); clear BK296; clear BK299; clear HB; have BK296 := n0_; have BK299 := n1_; have HB := n2_; clear n0_ n1_ n2_; (try clear hb); (try clear hb2); (try clear hk); (try clear hi); have hcz40_0 : w39.cell? ⟨gb299, 0, none⟩ = some (.string ((rd_T36 l0_3 x4_2).f0)) := (blk_cell BK299.out 0).trans rfl; have hcz40_1 : w39.cell? ⟨gb299, 1, none⟩ = some (.string ((rd_T36 l0_3 x4_2).f1)) := (blk_cell BK299.out 1).trans rfl; have hcz40_2 : w39.cell? ⟨gb299, 2, none⟩ = some (.int .i64 ((rd_T36 l0_3 x4_2).f2)) := (blk_cell BK299.out 2).trans rfl; have hfz40_0 := blk_frozen BK299.out 0; have hfz40_1 := blk_frozen BK299.out 1; have hfz40_2 := blk_frozen BK299.out 2))
            go_ret
            exact ⟨z64_, z15_⟩
         ·replace c17 := Bool.eq_false_iff.mpr c17
          subst c17
          have H1 : (some 120) = some r := by rw [if_neg (show ¬ (false = true) by decide)] at H; exact H
          clear H
          have H := H1
          clear H1
          obtain rfl := Option.some.inj H
          have hcz41_0 : wr.cell? ⟨gb296, 0, none⟩ = some (.int .u64 a0_0) := (blk_cell BK296.out 0).trans rfl
          have hcz41_1 : wr.cell? ⟨gb296, 1, none⟩ = some (.int .u64 a0_1) := (blk_cell BK296.out 1).trans rfl
          have hcz41_2 : wr.cell? ⟨gb296, 2, none⟩ = some (.string a0_2) := (blk_cell BK296.out 2).trans rfl
          have hcz41_3 : wr.cell? ⟨gb296, 3, none⟩ = some (.slice A0_3 l0_3.length c0_3) := (blk_cell BK296.out 3).trans rfl
          have hfz41_0 := blk_frozen BK296.out 0
          have hfz41_1 := blk_frozen BK296.out 1
          have hfz41_2 := blk_frozen BK296.out 2
          have hfz41_3 := blk_frozen BK296.out 3
          have p298 : 0 ≤ (x4_2 : Int) := of_decide_eq_true z70_
          have q298 : x4_2 < (l0_3.length : Int) := of_decide_eq_true z70_
          obtain ⟨ad298, e298, hx298_0, hx298_1, hx298_2⟩ := at_T36 HR0_3.out x4_2 p298 q298
          cases e298
          replace hx298_0 := (HB.out.cell (World.block_lt_of_cell? w _ hx298_0)).trans hx298_0
          replace hx298_1 := (HB.out.cell (World.block_lt_of_cell? w _ hx298_1)).trans hx298_1
          replace hx298_2 := (HB.out.cell (World.block_lt_of_cell? w _ hx298_2)).trans hx298_2
          replace p298 := eq_true p298
          replace q298 := eq_true q298
          go_wp2_with (first | ((with_reducible refine gate_dst (N := 5) rfl ?_); (try (refine gate_guard (by rfl) ?_; dsimp only)); refine box_event ?hg (N := 5) ?hd (cs := #[.string (⟨#[]⟩ : ByteArray), .string (⟨#[]⟩ : ByteArray), .int .i64 0]) (t := 36) ?hr ?_; (case hd => rfl); (case hg => rfl); (case hr => first | (go_simp; done) | (go_simp; rfl)); intro gb299 hg w42 hbox hb; have n0_ := a_ (blk_below (g := gb296) (o := .cells #[.int .u64 a0_0, .int .u64 a0_1, .string a0_2, .slice (some ad298) l0_3.length c0_3] 39 (0, 0)) z59_ hb); have n1_ := a_ (below_step z27_ hb); have n2_ := a_ (hbox); have n3_ := a_ ((z10_ : w.heap.size ≤ gb299)); have n4_ := a_ ((z10_ : w.heap.size ≤ gb299)); have n5_ := a_ ((by rw [hg]; exact Nat.ne_of_lt (blk_lt (g := gb296) (o := .cells #[.int .u64 a0_0, .int .u64 a0_1, .string a0_2, .slice (some ad298) l0_3.length c0_3] 39 (0, 0)) z59_) : gb296 ≠ gb299)); have n6_ := a_ ((by rw [hg]; exact Nat.ne_of_gt (blk_lt (g := gb296) (o := .cells #[.int .u64 a0_0, .int .u64 a0_1, .string a0_2, .slice (some ad298) l0_3.length c0_3] 39 (0, 0)) z59_) : gb299 ≠ gb296)); clear BK296; clear HB; have BK296 := n0_; have HB := n1_; have BK299 := n2_; have GW299 := n3_; have GE299 := n4_; have NB296_299 := n5_; have NB299_296 := n6_; clear n0_ n1_ n2_ n3_ n4_ n5_ n6_; clear hb hbox hg; have hnb43 := NB299_296.out; have hnc43 := NB296_299.out; have hcz44_0 : w42.cell? ⟨gb299, 0, none⟩ = some (.string (⟨#[]⟩ : ByteArray)) := (blk_cell BK299.out 0).trans rfl; have hcz44_1 : w42.cell? ⟨gb299, 1, none⟩ = some (.string (⟨#[]⟩ : ByteArray)) := (blk_cell BK299.out 1).trans rfl; have hcz44_2 : w42.cell? ⟨gb299, 2, none⟩ = some (.int .i64 0) := (blk_cell BK299.out 2).trans rfl; have hfz44_0 := blk_frozen BK299.out 0; have hfz44_1 := blk_frozen BK299.out 1; have hfz44_2 := blk_frozen BK299.out 2) | ((with_reducible refine gate_callee (f := 47) rfl ?_); refine goesL_ (some 40) rfl rfl Tryz.func47 z74_ rfl #[.string ((rd_T36 l0_3 x4_2).f0)] rfl z19_ ?_; (with_reducible refine (cambistref02_Who.calls k2 ((rd_T36 l0_3 x4_2).f0) true _ ?side1 A13.out).mono ?_); (case side1 => exact Glob.below HG.out z15_); rintro e w' ⟨rfl, ⟨nd, rfl⟩⟩; refine ⟨_, rfl, ?_⟩) | ((with_reducible refine gate_callee (f := 48) rfl ?_); refine goesL_ (some 43) rfl rfl Tryz.func48 z74_ rfl #[.string ((rd_T36 l0_3 x4_2).f1)] rfl z19_ ?_; (with_reducible refine (cambistref02_Asset.calls k2 ((rd_T36 l0_3 x4_2).f1) false _ ?side1 A14.out).mono ?_); (case side1 => exact Glob.below HG.out z15_); rintro e w' ⟨rfl, ⟨nd, rfl⟩⟩; refine ⟨_, rfl, ?_⟩; have hcz45_0 : w42.cell? ⟨gb296, 0, none⟩ = some (.int .u64 a0_0) := (blk_cell BK296.out 0).trans rfl; have hcz45_1 : w42.cell? ⟨gb296, 1, none⟩ = some (.int .u64 a0_1) := (blk_cell BK296.out 1).trans rfl; have hcz45_2 : w42.cell? ⟨gb296, 2, none⟩ = some (.string a0_2) := (blk_cell BK296.out 2).trans rfl; have hcz45_3 : w42.cell? ⟨gb296, 3, none⟩ = some (.slice (some ad298) l0_3.length c0_3) := (blk_cell BK296.out 3).trans rfl; have hfz45_0 := blk_frozen BK296.out 0; have hfz45_1 := blk_frozen BK296.out 1; have hfz45_2 := blk_frozen BK296.out 2; have hfz45_3 := blk_frozen BK296.out 3) | ((with_reducible refine gate_callee (f := 49) rfl ?_); refine goesL_ (some 48) rfl rfl Tryz.func49 z74_ rfl #[.slice (some ad298) l0_3.length c0_3, .string ((rd_T36 l0_3 x4_2).f1)] rfl z19_ ?_; (with_reducible refine (cambistref12_zero.calls k2 _ _ l0_3 ((rd_T36 l0_3 x4_2).f1) t302 _ ?side1 ?side2 ?side3 A15.out).mono ?_); (case side1 => exact Glob.below HG.out z15_); (case side2 => exact Kd.C_below HR0_3.out z15_); (case side3 => exact HC0_3.out); rintro e w46 ⟨rfl, hb⟩; refine ⟨_, rfl, ?_⟩; have n0_ := a_ (blk_below (g := gb296) (o := .cells #[.int .u64 a0_0, .int .u64 a0_1, .string a0_2, .slice (some ad298) l0_3.length c0_3] 39 (0, 0)) z3_ hb); have n1_ := a_ (blk_below (g := gb299) (o := .cells #[.string ((rd_T36 l0_3 x4_2).f0), .string ((rd_T36 l0_3 x4_2).f1), .int .i64 ((rd_T36 l0_3 x4_2).f2)] 36 (0, 0)) z1_ hb); have n2_ := a_ (below_step z15_ hb); clear BK296; clear BK299; clear HB; have BK296 := n0_; have BK299 := n1_; have HB := n2_; clear n0_ n1_ n2_; (try clear hb); (try clear hb2); (try clear hk); (try clear hi)))
          go_ret
          exact ⟨z64_, z15_⟩
        ·replace c16 := Bool.eq_false_iff.mpr c16
         subst c16
         have H1 : (some 120) = some r := by rw [if_neg (show ¬ (false = true) by decide)] at H; exact H
         clear H
         have H := H1
         clear H1
         obtain rfl := Option.some.inj H
         have hcz47_0 : wr.cell? ⟨gb296, 0, none⟩ = some (.int .u64 a0_0) := (blk_cell BK296.out 0).trans rfl
         have hcz47_1 : wr.cell? ⟨gb296, 1, none⟩ = some (.int .u64 a0_1) := (blk_cell BK296.out 1).trans rfl
         have hcz47_2 : wr.cell? ⟨gb296, 2, none⟩ = some (.string a0_2) := (blk_cell BK296.out 2).trans rfl
         have hcz47_3 : wr.cell? ⟨gb296, 3, none⟩ = some (.slice A0_3 l0_3.length c0_3) := (blk_cell BK296.out 3).trans rfl
         have hfz47_0 := blk_frozen BK296.out 0
         have hfz47_1 := blk_frozen BK296.out 1
         have hfz47_2 := blk_frozen BK296.out 2
         have hfz47_3 := blk_frozen BK296.out 3
         have p298 : 0 ≤ (x4_2 : Int) := of_decide_eq_true z70_
         have q298 : x4_2 < (l0_3.length : Int) := of_decide_eq_true z70_
         obtain ⟨ad298, e298, hx298_0, hx298_1, hx298_2⟩ := at_T36 HR0_3.out x4_2 p298 q298
         cases e298
         replace hx298_0 := (HB.out.cell (World.block_lt_of_cell? w _ hx298_0)).trans hx298_0
         replace hx298_1 := (HB.out.cell (World.block_lt_of_cell? w _ hx298_1)).trans hx298_1
         replace hx298_2 := (HB.out.cell (World.block_lt_of_cell? w _ hx298_2)).trans hx298_2
         replace p298 := eq_true p298
         replace q298 := eq_true q298
         go_wp2_with (first | ((with_reducible refine gate_dst (N := 5) rfl ?_); (try (refine gate_guard (by rfl) ?_; dsimp only)); refine box_event ?hg (N := 5) ?hd (cs := #[.string (⟨#[]⟩ : ByteArray), .string (⟨#[]⟩ : ByteArray), .int .i64 0]) (t := 36) ?hr ?_; (case hd => rfl); (case hg => rfl); (case hr => first | (go_simp; done) | (go_simp; rfl)); intro gb299 hg w48 hbox hb; have n0_ := a_ (blk_below (g := gb296) (o := .cells #[.int .u64 a0_0, .int .u64 a0_1, .string a0_2, .slice (some ad298) l0_3.length c0_3] 39 (0, 0)) z59_ hb); have n1_ := a_ (below_step z27_ hb); have n2_ := a_ (hbox); have n3_ := a_ ((z10_ : w.heap.size ≤ gb299)); have n4_ := a_ ((z10_ : w.heap.size ≤ gb299)); have n5_ := a_ ((by rw [hg]; exact Nat.ne_of_lt (blk_lt (g := gb296) (o := .cells #[.int .u64 a0_0, .int .u64 a0_1, .string a0_2, .slice (some ad298) l0_3.length c0_3] 39 (0, 0)) z59_) : gb296 ≠ gb299)); have n6_ := a_ ((by rw [hg]; exact Nat.ne_of_gt (blk_lt (g := gb296) (o := .cells #[.int .u64 a0_0, .int .u64 a0_1, .string a0_2, .slice (some ad298) l0_3.length c0_3] 39 (0, 0)) z59_) : gb299 ≠ gb296)); clear BK296; clear HB; have BK296 := n0_; have HB := n1_; have BK299 := n2_; have GW299 := n3_; have GE299 := n4_; have NB296_299 := n5_; have NB299_296 := n6_; clear n0_ n1_ n2_ n3_ n4_ n5_ n6_; clear hb hbox hg; have hnb49 := NB299_296.out; have hnc49 := NB296_299.out; have hcz50_0 : w48.cell? ⟨gb299, 0, none⟩ = some (.string (⟨#[]⟩ : ByteArray)) := (blk_cell BK299.out 0).trans rfl; have hcz50_1 : w48.cell? ⟨gb299, 1, none⟩ = some (.string (⟨#[]⟩ : ByteArray)) := (blk_cell BK299.out 1).trans rfl; have hcz50_2 : w48.cell? ⟨gb299, 2, none⟩ = some (.int .i64 0) := (blk_cell BK299.out 2).trans rfl; have hfz50_0 := blk_frozen BK299.out 0; have hfz50_1 := blk_frozen BK299.out 1; have hfz50_2 := blk_frozen BK299.out 2) | ((with_reducible refine gate_callee (f := 47) rfl ?_); refine goesL_ (some 40) rfl rfl Tryz.func47 z74_ rfl #[.string ((rd_T36 l0_3 x4_2).f0)] rfl z19_ ?_; (with_reducible refine (cambistref02_Who.calls k2 ((rd_T36 l0_3 x4_2).f0) false _ ?side1 A13.out).mono ?_); (case side1 => exact Glob.below HG.out z15_); rintro e w' ⟨rfl, ⟨nd, rfl⟩⟩; refine ⟨_, rfl, ?_⟩) | ((with_reducible refine gate_callee (f := 48) rfl ?_); refine goesL_ (some 43) rfl rfl Tryz.func48 z74_ rfl #[.string ((rd_T36 l0_3 x4_2).f1)] rfl z19_ ?_; (with_reducible refine (cambistref02_Asset.calls k2 ((rd_T36 l0_3 x4_2).f1) t301 _ ?side1 A14.out).mono ?_); (case side1 => exact Glob.below HG.out z15_); rintro e w' ⟨rfl, ⟨nd, rfl⟩⟩; refine ⟨_, rfl, ?_⟩; have hcz51_0 : w48.cell? ⟨gb296, 0, none⟩ = some (.int .u64 a0_0) := (blk_cell BK296.out 0).trans rfl; have hcz51_1 : w48.cell? ⟨gb296, 1, none⟩ = some (.int .u64 a0_1) := (blk_cell BK296.out 1).trans rfl; have hcz51_2 : w48.cell? ⟨gb296, 2, none⟩ = some (.string a0_2) := (blk_cell BK296.out 2).trans rfl; have hcz51_3 : w48.cell? ⟨gb296, 3, none⟩ = some (.slice (some ad298) l0_3.length c0_3) := (blk_cell BK296.out 3).trans rfl; have hfz51_0 := blk_frozen BK296.out 0; have hfz51_1 := blk_frozen BK296.out 1; have hfz51_2 := blk_frozen BK296.out 2; have hfz51_3 := blk_frozen BK296.out 3) | ((with_reducible refine gate_callee (f := 49) rfl ?_); refine goesL_ (some 48) rfl rfl Tryz.func49 z74_ rfl #[.slice (some ad298) l0_3.length c0_3, .string ((rd_T36 l0_3 x4_2).f1)] rfl z19_ ?_; (with_reducible refine (cambistref12_zero.calls k2 _ _ l0_3 ((rd_T36 l0_3 x4_2).f1) t302 _ ?side1 ?side2 ?side3 A15.out).mono ?_); (case side1 => exact Glob.below HG.out z15_); (case side2 => exact Kd.C_below HR0_3.out z15_); (case side3 => exact HC0_3.out); rintro e w52 ⟨rfl, hb⟩; refine ⟨_, rfl, ?_⟩; have n0_ := a_ (blk_below (g := gb296) (o := .cells #[.int .u64 a0_0, .int .u64 a0_1, .string a0_2, .slice (some ad298) l0_3.length c0_3] 39 (0, 0)) z3_ hb); have n1_ := a_ (blk_below (g := gb299) (o := .cells #[.string ((rd_T36 l0_3 x4_2).f0), .string ((rd_T36 l0_3 x4_2).f1), .int .i64 ((rd_T36 l0_3 x4_2).f2)] 36 (0, 0)) z1_ hb); have n2_ := a_ (below_step z15_ hb); clear BK296; clear BK299; clear HB; have BK296 := n0_; have BK299 := n1_; have HB := n2_; clear n0_ n1_ n2_; (try clear hb); (try clear hb2); (try clear hk); (try clear hi)))
         go_ret
         exact ⟨z64_, z15_⟩
       ·rw [if_neg c12] at H
        exact absurd H (by simp)
      ·rw [if_neg c11] at H
       have c11b0 : decide (x4_2 < (l0_3.length : Int)) = false := decide_eq_false c11
       clear c11
       obtain rfl := Option.some.inj H
       have hcz53_0 : wr.cell? ⟨gb296, 0, none⟩ = some (.int .u64 a0_0) := (blk_cell BK296.out 0).trans rfl
       have hcz53_1 : wr.cell? ⟨gb296, 1, none⟩ = some (.int .u64 a0_1) := (blk_cell BK296.out 1).trans rfl
       have hcz53_2 : wr.cell? ⟨gb296, 2, none⟩ = some (.string a0_2) := (blk_cell BK296.out 2).trans rfl
       have hcz53_3 : wr.cell? ⟨gb296, 3, none⟩ = some (.slice A0_3 l0_3.length c0_3) := (blk_cell BK296.out 3).trans rfl
       have hfz53_0 := blk_frozen BK296.out 0
       have hfz53_1 := blk_frozen BK296.out 1
       have hfz53_2 := blk_frozen BK296.out 2
       have hfz53_3 := blk_frozen BK296.out 3
       go_wp2
       go_ret
       exact ⟨z64_, z27_⟩

/-! ### cambistref02_Key: function 36 -/
mutual
def cambistref02_Key.j0 : Nat → Int → List ByteArray → Bool → Option (ByteArray × Int)
 | 0, _, _, _ => none
 | k + 1, x0, x1, x24 => if x24 = true then (some ((⟨#[]⟩ : ByteArray), 20)) else (cambistref02_Key.l0 k x1 (strOfNums (([x0] : List Int))) 0)
def cambistref02_Key.l0 : Nat → List ByteArray → ByteArray → Int → Option (ByteArray × Int)
 | 0, _, _, _ => none
 | k + 1, x1, x6, x7 => if x7 < (x1.length : Int) then (if 0 ≤ x7 then ((cambistref02_part.f k (rdOf ByteArray.empty x1 x7) 16).bind fun t307 => (if t307 = true then (if x6.size + 1 ≤ 9223372036854775807 then (if (x6 ++ (⟨#[124]⟩ : ByteArray)).size + (rdOf ByteArray.empty x1 x7).size ≤ 9223372036854775807 then (cambistref02_Key.l0 k x1 ((x6 ++ (⟨#[124]⟩ : ByteArray)) ++ (rdOf ByteArray.empty x1 x7)) (wrap64 (x7 + 1))) else (none)) else (none)) else (some ((⟨#[]⟩ : ByteArray), 20)))) else (none)) else (some (x6, 0))
end
def cambistref02_Key.f (k : Nat) (a0 : Int) (l1 : List ByteArray) : Option (ByteArray × Int) := if a0 < 97 then (cambistref02_Key.j0 k a0 l1 true) else (if a0 > 122 then (cambistref02_Key.j0 k a0 l1 true) else (if (l1.length : Int) < 1 then (cambistref02_Key.j0 k a0 l1 true) else (cambistref02_Key.j0 k a0 l1 (decide ((l1.length : Int) > 4)))))
theorem cambistref02_Key.mono_l : ∀ k, (∀ y0 y1 y2, LeO (cambistref02_Key.j0 k y0 y1 y2) (cambistref02_Key.j0 (k + 1) y0 y1 y2)) ∧ (∀ y0 y1 y2, LeO (cambistref02_Key.l0 k y0 y1 y2) (cambistref02_Key.l0 (k + 1) y0 y1 y2))
 | 0 => ⟨fun _ _ _ r h => by simp [cambistref02_Key.j0] at h, fun _ _ _ r h => by simp [cambistref02_Key.l0] at h⟩
 | k + 1 => by
  obtain ⟨ih0, ih1⟩ := cambistref02_Key.mono_l k
  refine ⟨?_, ?_⟩
  ·intro y0 y1 y2
   unfold cambistref02_Key.j0
   repeat' first
   | (with_reducible exact ih0 _ _ _)
   | (with_reducible exact ih1 _ _ _)
   | (with_reducible exact cambistref02_part.mono _ _ _)
   | (with_reducible first | exact LeO.refl _ | exact LeO.none _ | refine LeO.ite ?_ ?_ | refine LeO.bind ?_ fun _ => ?_)
   | exact ih0 _ _ _
   | exact ih1 _ _ _
   | exact cambistref02_part.mono _ _ _
  ·intro y0 y1 y2
   unfold cambistref02_Key.l0
   repeat' first
   | (with_reducible exact ih0 _ _ _)
   | (with_reducible exact ih1 _ _ _)
   | (with_reducible exact cambistref02_part.mono _ _ _)
   | (with_reducible first | exact LeO.refl _ | exact LeO.none _ | refine LeO.ite ?_ ?_ | refine LeO.bind ?_ fun _ => ?_)
   | exact ih0 _ _ _
   | exact ih1 _ _ _
   | exact cambistref02_part.mono _ _ _
theorem cambistref02_Key.mono : ∀ a0 a1 k, LeO (cambistref02_Key.f k a0 a1) (cambistref02_Key.f (k + 1) a0 a1) := by
 intro a0 a1 k
 obtain ⟨ih0, ih1⟩ := cambistref02_Key.mono_l k
 unfold cambistref02_Key.f
 repeat' first
   | (with_reducible exact ih0 _ _ _)
   | (with_reducible exact ih1 _ _ _)
   | (with_reducible exact cambistref02_part.mono _ _ _)
   | (with_reducible first | exact LeO.refl _ | exact LeO.none _ | refine LeO.ite ?_ ?_ | refine LeO.bind ?_ fun _ => ?_)
   | exact ih0 _ _ _
   | exact ih1 _ _ _
   | exact cambistref02_part.mono _ _ _
set_option maxHeartbeats 8000000 in
set_option maxRecDepth 100000 in
theorem cambistref02_Key.calls (k : Nat) (a0 : Int) (A1 : Option Addr) (c1 : Nat) (l1 : List ByteArray) (r1 : ByteArray) (r2 : Int) (w : World) (hG : Glob w) (hr1 : Kd.C Kd.string w A1 l1.length l1) (hc1 : l1.length ≤ c1) (h : cambistref02_Key.f k a0 l1 = some (r1, r2)) :
  Calls Tryz.prog 36 #[.int .u8 a0, .slice A1 l1.length c1] w fun e w' => e = .returned (.tuple #[.string r1, .int .i64 r2]) ∧ Below w.heap.size w w' := by
 have HG := a_ hG
 clear hG
 have HR1 := a_ hr1
 have HC1 := a_ hc1
 clear hr1 hc1
 have HB := a_ (Below.refl w.heap.size w)
 have H : (if a0 < 97 then (cambistref02_Key.j0 k a0 l1 true) else (if a0 > 122 then (cambistref02_Key.j0 k a0 l1 true) else (if (l1.length : Int) < 1 then (cambistref02_Key.j0 k a0 l1 true) else (cambistref02_Key.j0 k a0 l1 (decide ((l1.length : Int) > 4)))))) = some (r1, r2) := h
 clear h
 have HC3 := a_ H
 clear H
 go_enter Tryz.func36, Tryz.ntmps36
 go_upto_region 1 with (fail)
 go_cut [24] (fun v24 wc => ∃ (kq : Nat) (x24_2 : Bool), v24 = .bool x24_2 ∧ Aside0 (cambistref02_Key.j0 kq a0 l1 x24_2 = some (r1, r2)) ∧ Aside0 (kq ≤ k) ∧ Aside0 (Below w.heap.size w wc))
 case first =>
  have H := HC3.out
  clear HC3
  by_cases c4 : a0 < 97
  ·rw [if_pos c4] at H
   have c4b0 : decide (a0 < 97) = true := decide_eq_true c4
   clear c4
   (first | rw [c4b0] | (simp only [i64_w, i32_w]; rw [c4b0]) | skip)
   have H' := a_ H
   clear H
   go_wp2
   go_meet
   case rel => exact ⟨_, (true), z71_, H', ⟨z72_⟩, ⟨z33_⟩⟩
  ·rw [if_neg c4] at H
   have c4b0 : decide (a0 < 97) = false := decide_eq_false c4
   clear c4
   (first | rw [c4b0] | (simp only [i64_w, i32_w]; rw [c4b0]) | skip)
   by_cases c5 : a0 > 122
   ·rw [if_pos c5] at H
    have c5b0 : decide (122 < a0) = true := decide_eq_true c5
    clear c5
    have H' := a_ H
    clear H
    go_wp2
    go_meet
    case rel => exact ⟨_, (true), z71_, H', ⟨z72_⟩, ⟨z33_⟩⟩
   ·rw [if_neg c5] at H
    have c5b0 : decide (122 < a0) = false := decide_eq_false c5
    clear c5
    by_cases c6 : (l1.length : Int) < 1
    ·rw [if_pos c6] at H
     have c6b0 : decide ((l1.length : Int) < 1) = true := decide_eq_true c6
     have c6b1 : decide (l1.length < 1) = true := decide_eq_true (by omega)
     clear c6
     have H' := a_ H
     clear H
     go_wp2
     go_meet
     case rel => exact ⟨_, (true), z71_, H', ⟨z72_⟩, ⟨z33_⟩⟩
    ·rw [if_neg c6] at H
     have c6b0 : decide ((l1.length : Int) < 1) = false := decide_eq_false c6
     have c6b1 : decide (l1.length < 1) = false := decide_eq_false (by omega)
     clear c6
     have H' := a_ H
     clear H
     go_wp2
     go_meet
     case rel => exact ⟨_, (decide ((l1.length : Int) > 4)), z71_, H', ⟨z72_⟩, ⟨z33_⟩⟩
 case rest =>
  clear HC3
  try clear c1
  try clear p2
  try clear c3
  try clear c4
  try clear c4b0
  try clear c5
  try clear c5b0
  try clear c6
  try clear c6b0
  try clear c6b1
  obtain ⟨kq, x24_2, rfl, HA, HJ2, HB⟩ := hcut
  cases kq with
  | zero => exact absurd HA.out (by simp [cambistref02_Key.j0])
  | succ kj2 =>
   have H := HA.out
   clear HA
   simp only [cambistref02_Key.j0] at H
   by_cases c7 : x24_2 = true
   ·subst c7
    have H1 : (some ((⟨#[]⟩ : ByteArray), 20)) = some (r1, r2) := by rw [if_pos rfl] at H; exact H
    clear H
    have H := H1
    clear H1
    simp only [Option.some.injEq, Prod.mk.injEq] at H
    obtain ⟨rfl, rfl⟩ := H
    go_wp2
    go_ret2
    exact ⟨z64_, z33_⟩
   ·replace c7 := Bool.eq_false_iff.mpr c7
    subst c7
    have H1 : (cambistref02_Key.l0 kj2 l1 (strOfNums (([a0] : List Int))) 0) = some (r1, r2) := by rw [if_neg (show ¬ (false = true) by decide)] at H; exact H
    clear H
    have H := H1
    clear H1
    obtain ⟨y303, hy303⟩ : ∃ y_ : List Int, y_ = (([a0] : List Int)) := ⟨_, rfl⟩
    replace H : (cambistref02_Key.l0 kj2 l1 (strOfNums y303) 0) = some (r1, r2) := by first | (rw [hy303]; with_reducible exact H) | (have H2_ := (Option.bind_some _ _).symm.trans H; rw [hy303]; with_reducible exact H2_) | (have H2_ := (Option.bind_some _ _).symm.trans H; with_reducible exact H2_) | with_reducible exact H | (rw [hy303]; exact H) | exact H
    have Ny303 := a_ hy303
    clear hy303
    have H' := a_ H
    clear H
    go_wp2_with (first | ((with_reducible refine gate_dst (N := 26) rfl ?_); (try (refine gate_guard (by rfl) ?_; dsimp only)); refine Kd.R_lit (Kd.int .u8) _ 5 ?hg (N := 26) ?hd (xs := ([a0] : List Int)) (inner := [.int .u8 a0]) (ok := fun _ => True) (okp := fun _ => True) ?hr ?hp (fun _ hk => hk) trivial (Below.refl _ _) (Nat.le_refl _) (by simp) ?_; (case hd => rfl); (case hg => rfl); (case hr => first | (go_simp; done) | (go_simp; rfl)); (case hp => exact (Reps.one (show Kd.M (Kd.int .u8) _ _ _ a0 [.int .u8 a0] from rfl) (Reps.none _ _))); intro v304 w8 ho9 hb hg_ hnew_; clear hg_ hnew_; (first | rw [← Ny303.out] at ho9 | (simp only [Int.reduceToNat] at ho9; rw [← Ny303.out] at ho9)); have n0_ := a_ (Kd.R_lower ho9 (below_size z33_)); have n1_ := a_ (below_step z33_ hb); clear HB; have HO305 := n0_; have HB := n1_; clear n0_ n1_; clear hb ho9; have hcv10 := own_string (P := Tryz.prog) Tryz.underlying72 Tryz.underlying5 Tryz.underlying9 (Kd.own_of_R HO305.out)))
    go_loopg [6, 7] kj2 (fun kq v6 v7 w' => ∃ (x6_2 : ByteArray) (x7_2 : Int), v6 = .string x6_2 ∧ v7 = .int .i64 x7_2 ∧ Aside0 (cambistref02_Key.l0 kq l1 x6_2 x7_2 = some (r1, r2)) ∧ Aside0 (kq ≤ kj2) ∧ Aside0 (Below w.heap.size w w'))
    case atStart => exact ⟨(strOfNums y303), (0), z71_, z71_, H', ⟨Nat.le_refl _⟩, ⟨z33_⟩⟩
    case round =>
     clear H'
     try clear c1
     try clear hcv1
     try clear p2
     try clear c3
     try clear c4
     try clear c4b0
     try clear c5
     try clear c5b0
     try clear c6
     try clear c6b0
     try clear c6b1
     try clear c7
     try clear hcv10
     try clear p2
     obtain ⟨x6_2, x7_2, rfl, rfl, HA, HK2, HB⟩ := hrel
     cases gk with
     | zero => exact absurd HA.out (by simp [cambistref02_Key.l0])
     | succ k2 =>
      have H := HA.out
      clear HA
      simp only [cambistref02_Key.l0] at H
      by_cases c11 : x7_2 < (l1.length : Int)
      ·rw [if_pos c11] at H
       have c11b0 : decide (x7_2 < (l1.length : Int)) = true := decide_eq_true c11
       clear c11
       by_cases c12 : 0 ≤ x7_2
       ·rw [if_pos c12] at H
        have c12b0 : decide (0 ≤ x7_2) = true := decide_eq_true c12
        clear c12
        replace H := Option.bind_eq_some_iff.mp H
        obtain ⟨t307, A130, H⟩ := H
        replace H : (if t307 = true then (if x6_2.size + 1 ≤ 9223372036854775807 then (if (x6_2 ++ (⟨#[124]⟩ : ByteArray)).size + (rdOf ByteArray.empty l1 x7_2).size ≤ 9223372036854775807 then (cambistref02_Key.l0 k2 l1 ((x6_2 ++ (⟨#[124]⟩ : ByteArray)) ++ (rdOf ByteArray.empty l1 x7_2)) (wrap64 (x7_2 + 1))) else (none)) else (none)) else (some ((⟨#[]⟩ : ByteArray), 20))) = some (r1, r2) := H
        have A13 := a_ A130
        clear A130
        by_cases c14 : t307 = true
        ·subst c14
         have H1 : (if x6_2.size + 1 ≤ 9223372036854775807 then (if (x6_2 ++ (⟨#[124]⟩ : ByteArray)).size + (rdOf ByteArray.empty l1 x7_2).size ≤ 9223372036854775807 then (cambistref02_Key.l0 k2 l1 ((x6_2 ++ (⟨#[124]⟩ : ByteArray)) ++ (rdOf ByteArray.empty l1 x7_2)) (wrap64 (x7_2 + 1))) else (none)) else (none)) = some (r1, r2) := by rw [if_pos rfl] at H; exact H
         clear H
         have H := H1
         clear H1
         by_cases c15 : x6_2.size + 1 ≤ 9223372036854775807
         ·rw [if_pos c15] at H
          have c15b0 := eq_true c15
          have c15b1 : decide (x6_2.size + 1 ≤ 9223372036854775807) = true := decide_eq_true c15
          try have c15b2 : (9223372036854775807 < x6_2.size + 1) = False := eq_false (Nat.not_lt.2 c15)
          by_cases c16 : (x6_2 ++ (⟨#[124]⟩ : ByteArray)).size + (rdOf ByteArray.empty l1 x7_2).size ≤ 9223372036854775807
          ·rw [if_pos c16] at H
           have c16b0 := eq_true c16
           have c16b1 : decide ((x6_2 ++ (⟨#[124]⟩ : ByteArray)).size + (rdOf ByteArray.empty l1 x7_2).size ≤ 9223372036854775807) = true := decide_eq_true c16
           try have c16b2 : (9223372036854775807 < (x6_2 ++ (⟨#[124]⟩ : ByteArray)).size + (rdOf ByteArray.empty l1 x7_2).size) = False := eq_false (Nat.not_lt.2 c16)
           try have c16b3 : (9223372036854775807 < x6_2.size + 1 + (rdOf ByteArray.empty l1 x7_2).size) = False := by have h_ := c16b2; simp only [ByteArray.size_append] at h_; exact h_
           have H' := a_ H
           clear H
           have p306 : 0 ≤ (x7_2 : Int) := of_decide_eq_true z70_
           have q306 : x7_2 < (l1.length : Int) := of_decide_eq_true z70_
           obtain ⟨ad306, e306, hx306_0⟩ := Kd.at_string HR1.out x7_2 p306 q306
           cases e306
           replace hx306_0 := (HB.out.cell (World.block_lt_of_cell? w _ hx306_0)).trans hx306_0
           replace p306 := eq_true p306
           replace q306 := eq_true q306
           go_wp2_with (first | ((with_reducible refine gate_callee (f := 50) rfl ?_); refine goesL_ (some 38) rfl rfl Tryz.func50 z74_ rfl #[.string (rdOf ByteArray.empty l1 x7_2), .int .i64 16] rfl z19_ ?_; (with_reducible refine (cambistref02_part.calls k2 (rdOf ByteArray.empty l1 x7_2) 16 true _ ?side1 A13.out).mono ?_); (case side1 => exact Glob.below HG.out z33_); rintro e w' ⟨rfl, ⟨nd, rfl⟩⟩; refine ⟨_, rfl, ?_⟩; have p308 : 0 ≤ (x7_2 : Int) := of_decide_eq_true z70_; have q308 : x7_2 < (l1.length : Int) := of_decide_eq_true z70_; obtain ⟨ad308, e308, hx308_0⟩ := Kd.at_string HR1.out x7_2 p308 q308; obtain rfl : ad306 = ad308 := (by injection e308); replace hx308_0 := (HB.out.cell (World.block_lt_of_cell? w _ hx308_0)).trans hx308_0; replace p308 := eq_true p308; replace q308 := eq_true q308))
           go_roundg k2
           case measure => have := HJ2.out; have := HK2.out; omega
           case rel => exact ⟨((x6_2 ++ (⟨#[124]⟩ : ByteArray)) ++ (rdOf ByteArray.empty l1 x7_2)), (wrap64 (x7_2 + 1)), z71_, z71_, H', ⟨by have := HJ2.out; have := HK2.out; omega⟩, ⟨z33_⟩⟩
          ·rw [if_neg c16] at H
           exact absurd H (by simp)
         ·rw [if_neg c15] at H
          exact absurd H (by simp)
        ·replace c14 := Bool.eq_false_iff.mpr c14
         subst c14
         have H1 : (some ((⟨#[]⟩ : ByteArray), 20)) = some (r1, r2) := by rw [if_neg (show ¬ (false = true) by decide)] at H; exact H
         clear H
         have H := H1
         clear H1
         simp only [Option.some.injEq, Prod.mk.injEq] at H
         obtain ⟨rfl, rfl⟩ := H
         have p306 : 0 ≤ (x7_2 : Int) := of_decide_eq_true z70_
         have q306 : x7_2 < (l1.length : Int) := of_decide_eq_true z70_
         obtain ⟨ad306, e306, hx306_0⟩ := Kd.at_string HR1.out x7_2 p306 q306
         cases e306
         replace hx306_0 := (HB.out.cell (World.block_lt_of_cell? w _ hx306_0)).trans hx306_0
         replace p306 := eq_true p306
         replace q306 := eq_true q306
         go_wp2_with (first | ((with_reducible refine gate_callee (f := 50) rfl ?_); refine goesL_ (some 38) rfl rfl Tryz.func50 z74_ rfl #[.string (rdOf ByteArray.empty l1 x7_2), .int .i64 16] rfl z19_ ?_; (with_reducible refine (cambistref02_part.calls k2 (rdOf ByteArray.empty l1 x7_2) 16 false _ ?side1 A13.out).mono ?_); (case side1 => exact Glob.below HG.out z33_); rintro e w' ⟨rfl, ⟨nd, rfl⟩⟩; refine ⟨_, rfl, ?_⟩))
         go_ret2
         exact ⟨z64_, z33_⟩
       ·rw [if_neg c12] at H
        exact absurd H (by simp)
      ·rw [if_neg c11] at H
       have c11b0 : decide (x7_2 < (l1.length : Int)) = false := decide_eq_false c11
       clear c11
       simp only [Option.some.injEq, Prod.mk.injEq] at H
       obtain ⟨rfl, rfl⟩ := H
       go_wp2
       go_ret2
       exact ⟨z64_, z33_⟩

end Go.Proofs.YtjlifcbddednaaaGreatDoor.P
