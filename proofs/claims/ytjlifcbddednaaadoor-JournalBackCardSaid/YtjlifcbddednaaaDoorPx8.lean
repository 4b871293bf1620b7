-- Laid by wip/tools/cprint.py of this claim's own repo (over the kit's print).
import Derived.Test.YtjlifcbddednaaaDoorPx0
import Derived.Test.YtjlifcbddednaaaDoorPx7
namespace Go.Proofs.YtjlifcbddednaaaDoor.P
open Go.RowKit Go.Proofs.YtjlifcbddednaaaDoor.E Go.Proofs.YtjlifcbddednaaaDoorW.PrintWords Go.Proofs.YtjlifcbddednaaaDoorW.PrintLast
set_option linter.unusedVariables false
set_option linter.unusedSimpArgs false

/-! ### cambistref01_Sum: function 44 -/
mutual
def cambistref01_Sum.l0 : Nat → List Int → List Int → List Int → Int → Option (Int × Int)
 | 0, _, _, _, _ => none
 | k + 1, x0, x4, x5, x6 => if x6 < (x0.length : Int) then (if 0 ≤ x6 then (if (rd x0 x6) ≥ 0 then (if x4.length < 17592186044416 then (cambistref01_Sum.l0 k x0 (x4 ++ [rd x0 x6]) x5 (wrap64 (x6 + 1))) else (none)) else (if x5.length < 17592186044416 then (cambistref01_Sum.l0 k x0 x4 (x5 ++ [rd x0 x6]) (wrap64 (x6 + 1))) else (none))) else (none)) else (cambistref01_Sum.l1 k x4 x5 0)
def cambistref01_Sum.l1 : Nat → List Int → List Int → Int → Option (Int × Int)
 | 0, _, _, _ => none
 | k + 1, x4, x5, x7 => if (x4.length : Int) > 0 then (cambistref01_Sum.j2 k x4 x5 x7 true) else (cambistref01_Sum.j2 k x4 x5 x7 (decide ((x5.length : Int) > 0)))
def cambistref01_Sum.j2 : Nat → List Int → List Int → Int → Bool → Option (Int × Int)
 | 0, _, _, _, _ => none
 | k + 1, x4, x5, x7, x44 => if x44 = true then (if (x4.length : Int) > 0 then (if x7 < 0 then (cambistref01_Sum.j3 k x4 x5 x7 true) else (if (x5.length : Int) = 0 then (cambistref01_Sum.j3 k x4 x5 x7 true) else (cambistref01_Sum.j3 k x4 x5 x7 ((x5.length : Int) == 0)))) else (cambistref01_Sum.j3 k x4 x5 x7 ((x5.length : Int) == 0))) else (some (x7, 0))
def cambistref01_Sum.j3 : Nat → List Int → List Int → Int → Bool → Option (Int × Int)
 | 0, _, _, _, _ => none
 | k + 1, x4, x5, x7, x61 => if x61 = true then (if 0 < (x4.length : Int) then ((cambistref01_Add.f x7 (rd x4 0)).bind fun bt230 => (if bt230.2 = 0 then (if 1 ≤ (x4.length : Int) then (cambistref01_Sum.l1 k (x4.drop (1 : Int).toNat) x5 bt230.1) else (none)) else (some (0, bt230.2)))) else (none)) else (if (x4.length : Int) > 0 then (if x7 ≥ 0 then (cambistref01_Sum.j4 k x4 x5 x7 true) else (cambistref01_Sum.j4 k x4 x5 x7 ((x4.length : Int) == 0))) else (cambistref01_Sum.j4 k x4 x5 x7 ((x4.length : Int) == 0)))
def cambistref01_Sum.j4 : Nat → List Int → List Int → Int → Bool → Option (Int × Int)
 | 0, _, _, _, _ => none
 | k + 1, x4, x5, x7, x87 => if x87 = true then (if 0 < (x5.length : Int) then ((cambistref01_Add.f x7 (rd x5 0)).bind fun bt236 => (if bt236.2 = 0 then (if 1 ≤ (x5.length : Int) then (cambistref01_Sum.l1 k x4 (x5.drop (1 : Int).toNat) bt236.1) else (none)) else (some (0, bt236.2)))) else (none)) else (cambistref01_Sum.l1 k x4 x5 x7)
end
def cambistref01_Sum.f (k : Nat) (l0 : List Int) : Option (Int × Int) := cambistref01_Sum.l0 k l0 ([] : List Int) ([] : List Int) 0
theorem cambistref01_Sum.mono_l : ∀ k, (∀ y0 y1 y2 y3, LeO (cambistref01_Sum.l0 k y0 y1 y2 y3) (cambistref01_Sum.l0 (k + 1) y0 y1 y2 y3)) ∧ (∀ y0 y1 y2, LeO (cambistref01_Sum.l1 k y0 y1 y2) (cambistref01_Sum.l1 (k + 1) y0 y1 y2)) ∧ (∀ y0 y1 y2 y3, LeO (cambistref01_Sum.j2 k y0 y1 y2 y3) (cambistref01_Sum.j2 (k + 1) y0 y1 y2 y3)) ∧ (∀ y0 y1 y2 y3, LeO (cambistref01_Sum.j3 k y0 y1 y2 y3) (cambistref01_Sum.j3 (k + 1) y0 y1 y2 y3)) ∧ (∀ y0 y1 y2 y3, LeO (cambistref01_Sum.j4 k y0 y1 y2 y3) (cambistref01_Sum.j4 (k + 1) y0 y1 y2 y3))
 | 0 => ⟨fun _ _ _ _ r h => by simp [cambistref01_Sum.l0] at h, fun _ _ _ r h => by simp [cambistref01_Sum.l1] at h, fun _ _ _ _ r h => by simp [cambistref01_Sum.j2] at h, fun _ _ _ _ r h => by simp [cambistref01_Sum.j3] at h, fun _ _ _ _ r h => by simp [cambistref01_Sum.j4] at h⟩
 | k + 1 => by
  obtain ⟨ih0, ih1, ih2, ih3, ih4⟩ := cambistref01_Sum.mono_l k
  refine ⟨?_, ?_, ?_, ?_, ?_⟩
  ·intro y0 y1 y2 y3
   unfold cambistref01_Sum.l0
   repeat' first
   | (with_reducible exact ih0 _ _ _ _)
   | (with_reducible exact ih1 _ _ _)
   | (with_reducible exact ih2 _ _ _ _)
   | (with_reducible exact ih3 _ _ _ _)
   | (with_reducible exact ih4 _ _ _ _)
   | (with_reducible exact LeO.refl _)
   | (with_reducible exact LeO.none _)
   | (with_reducible refine LeO.ite ?_ ?_)
   | (with_reducible refine LeO.bind ?_ (fun _ => ?_))
   | exact ih0 _ _ _ _
   | exact ih1 _ _ _
   | exact ih2 _ _ _ _
   | exact ih3 _ _ _ _
   | exact ih4 _ _ _ _
   | exact LeO.none _
   | refine LeO.ite ?_ ?_
   | refine LeO.bind ?_ (fun _ => ?_)
  ·intro y0 y1 y2
   unfold cambistref01_Sum.l1
   repeat' first
   | (with_reducible exact ih0 _ _ _ _)
   | (with_reducible exact ih1 _ _ _)
   | (with_reducible exact ih2 _ _ _ _)
   | (with_reducible exact ih3 _ _ _ _)
   | (with_reducible exact ih4 _ _ _ _)
   | (with_reducible exact LeO.refl _)
   | (with_reducible exact LeO.none _)
   | (with_reducible refine LeO.ite ?_ ?_)
   | (with_reducible refine LeO.bind ?_ (fun _ => ?_))
   | exact ih0 _ _ _ _
   | exact ih1 _ _ _
   | exact ih2 _ _ _ _
   | exact ih3 _ _ _ _
   | exact ih4 _ _ _ _
   | exact LeO.none _
   | refine LeO.ite ?_ ?_
   | refine LeO.bind ?_ (fun _ => ?_)
  ·intro y0 y1 y2 y3
   unfold cambistref01_Sum.j2
   repeat' first
   | (with_reducible exact ih0 _ _ _ _)
   | (with_reducible exact ih1 _ _ _)
   | (with_reducible exact ih2 _ _ _ _)
   | (with_reducible exact ih3 _ _ _ _)
   | (with_reducible exact ih4 _ _ _ _)
   | (with_reducible exact LeO.refl _)
   | (with_reducible exact LeO.none _)
   | (with_reducible refine LeO.ite ?_ ?_)
   | (with_reducible refine LeO.bind ?_ (fun _ => ?_))
   | exact ih0 _ _ _ _
   | exact ih1 _ _ _
   | exact ih2 _ _ _ _
   | exact ih3 _ _ _ _
   | exact ih4 _ _ _ _
   | exact LeO.none _
   | refine LeO.ite ?_ ?_
   | refine LeO.bind ?_ (fun _ => ?_)
  ·intro y0 y1 y2 y3
   unfold cambistref01_Sum.j3
   repeat' first
   | (with_reducible exact ih0 _ _ _ _)
   | (with_reducible exact ih1 _ _ _)
   | (with_reducible exact ih2 _ _ _ _)
   | (with_reducible exact ih3 _ _ _ _)
   | (with_reducible exact ih4 _ _ _ _)
   | (with_reducible exact LeO.refl _)
   | (with_reducible exact LeO.none _)
   | (with_reducible refine LeO.ite ?_ ?_)
   | (with_reducible refine LeO.bind ?_ (fun _ => ?_))
   | exact ih0 _ _ _ _
   | exact ih1 _ _ _
   | exact ih2 _ _ _ _
   | exact ih3 _ _ _ _
   | exact ih4 _ _ _ _
   | exact LeO.none _
   | refine LeO.ite ?_ ?_
   | refine LeO.bind ?_ (fun _ => ?_)
  ·intro y0 y1 y2 y3
   unfold cambistref01_Sum.j4
   repeat' first
   | (with_reducible exact ih0 _ _ _ _)
   | (with_reducible exact ih1 _ _ _)
   | (with_reducible exact ih2 _ _ _ _)
   | (with_reducible exact ih3 _ _ _ _)
   | (with_reducible exact ih4 _ _ _ _)
   | (with_reducible exact LeO.refl _)
   | (with_reducible exact LeO.none _)
   | (with_reducible refine LeO.ite ?_ ?_)
   | (with_reducible refine LeO.bind ?_ (fun _ => ?_))
   | exact ih0 _ _ _ _
   | exact ih1 _ _ _
   | exact ih2 _ _ _ _
   | exact ih3 _ _ _ _
   | exact ih4 _ _ _ _
   | exact LeO.none _
   | refine LeO.ite ?_ ?_
   | refine LeO.bind ?_ (fun _ => ?_)
theorem cambistref01_Sum.mono : ∀ a0 k, LeO (cambistref01_Sum.f k a0) (cambistref01_Sum.f (k + 1) a0) := by
 intro a0 k
 obtain ⟨ih0, ih1, ih2, ih3, ih4⟩ := cambistref01_Sum.mono_l k
 unfold cambistref01_Sum.f
 repeat' first
   | (with_reducible exact ih0 _ _ _ _)
   | (with_reducible exact ih1 _ _ _)
   | (with_reducible exact ih2 _ _ _ _)
   | (with_reducible exact ih3 _ _ _ _)
   | (with_reducible exact ih4 _ _ _ _)
   | (with_reducible exact LeO.refl _)
   | (with_reducible exact LeO.none _)
   | (with_reducible refine LeO.ite ?_ ?_)
   | (with_reducible refine LeO.bind ?_ (fun _ => ?_))
   | exact ih0 _ _ _ _
   | exact ih1 _ _ _
   | exact ih2 _ _ _ _
   | exact ih3 _ _ _ _
   | exact ih4 _ _ _ _
   | exact LeO.none _
   | refine LeO.ite ?_ ?_
   | refine LeO.bind ?_ (fun _ => ?_)
set_option maxHeartbeats 8000000 in
set_option maxRecDepth 100000 in
theorem cambistref01_Sum.calls (k : Nat) (A0 : Option Addr) (c0 : Nat) (l0 : List Int) (r1 : Int) (r2 : Int) (w : World) (hG : Glob w) (hr0 : Kd.C (Kd.int .i64) w A0 l0.length l0) (hc0 : l0.length ≤ c0) (h : cambistref01_Sum.f k l0 = some (r1, r2)) :
  Calls Tryd.prog 44 #[.slice A0 l0.length c0] w fun e w' => e = .returned (.tuple #[.int .i64 r1, .int .i64 r2]) ∧ Below w.heap.size w w' := by
 have HG := Aside0.mk hG
 clear hG
 have HR0 := Aside0.mk hr0
 have HC0 := Aside0.mk hc0
 clear hr0 hc0
 have HB := Aside0.mk (Below.refl w.heap.size w)
 have H : (cambistref01_Sum.l0 k l0 ([] : List Int) ([] : List Int) 0) = some (r1, r2) := h
 clear h
 have H' := Aside0.mk H
 clear H
 go_enter Tryd.func44, Tryd.ntmps44
 go_wp2
 go_loopg [4, 5, 6] k (fun kq v4 v5 v6 w' => ∃ (x4_1 : List Int) (x5_1 : List Int) (x6_1 : Int), v6 = .int .i64 x6_1 ∧ Aside0 (cambistref01_Sum.l0 kq l0 x4_1 x5_1 x6_1 = some (r1, r2)) ∧ Aside0 (kq ≤ k) ∧ Aside0 (Kd.Q (Kd.int .i64) 2 w' w.heap.size (fun k_ => some k_ ≠ (v5 : Value).ownBlock) v4 x4_1) ∧ Aside0 (Kd.Q (Kd.int .i64) 2 w' w.heap.size (fun k_ => some k_ ≠ (v4 : Value).ownBlock) v5 x5_1) ∧ Aside0 (Below w.heap.size w w'))
 case atStart => exact ⟨(([] : List Int)), (([] : List Int)), (0), (by first | rfl | (simp; done) | (simp [*]; done)), H', ⟨Nat.le_refl _⟩, ⟨Kd.Q_of_R (by first | exact Kd.R_nil _ _ _ _ _ | exact Kd.N_nil _ _ _ _ _ | exact Kd.V_nil _ _ _ _ _ | exact Kd.Q_nil _ _ _ _ _ | exact Kd.S_nil _ _ _ _ _)⟩, ⟨Kd.Q_of_R (by first | exact Kd.R_nil _ _ _ _ _ | exact Kd.N_nil _ _ _ _ _ | exact Kd.V_nil _ _ _ _ _ | exact Kd.Q_nil _ _ _ _ _ | exact Kd.S_nil _ _ _ _ _)⟩, ⟨by repeat (first | (with_reducible first | exact HB.out | apply below_alloc | apply pw_below_drewN | apply below_drew1) | exact HB.out)⟩⟩
 case round =>
  clear H'
  obtain ⟨x4_1, x5_1, x6_1, rfl, HA, HK1, HO_4, HO_5, HB⟩ := hrel
  cases gk with
  | zero => exact absurd HA.out (by simp [cambistref01_Sum.l0])
  | succ k1 =>
   have H := HA.out
   clear HA
   simp only [cambistref01_Sum.l0] at H
   by_cases c2 : x6_1 < (l0.length : Int)
   ·rw [if_pos c2] at H
    have c2b0 : decide (x6_1 < (l0.length : Int)) = true := decide_eq_true c2
    clear c2
    by_cases c3 : 0 ≤ x6_1
    ·rw [if_pos c3] at H
     have c3b0 : decide (0 ≤ x6_1) = true := decide_eq_true c3
     clear c3
     by_cases c4 : (rd l0 x6_1) ≥ 0
     ·rw [if_pos c4] at H
      have c4b0 : decide (0 ≤ (rd l0 x6_1)) = true := decide_eq_true c4
      clear c4
      by_cases c5 : x4_1.length < 17592186044416
      ·rw [if_pos c5] at H
       have LMc5 := Aside0.mk c5
       clear c5
       obtain ⟨y222, hy222⟩ : ∃ y_ : List Int, y_ = (x4_1 ++ [rd l0 x6_1]) := ⟨_, rfl⟩
       replace H : (cambistref01_Sum.l0 k1 l0 y222 x5_1 (wrap64 (x6_1 + 1))) = some (r1, r2) := by first | (rw [hy222]; with_reducible exact H) | (have H2_ := (Option.bind_some _ _).symm.trans H; rw [hy222]; with_reducible exact H2_) | (have H2_ := (Option.bind_some _ _).symm.trans H; with_reducible exact H2_) | with_reducible exact H | (rw [hy222]; exact H) | exact H
       have Ny222 := Aside0.mk hy222
       clear hy222
       have H' := Aside0.mk H
       clear H
       have p220 : 0 ≤ (x6_1 : Int) := of_decide_eq_true (by first | (with_reducible assumption) | assumption)
       have q220 : x6_1 < (l0.length : Int) := of_decide_eq_true (by first | (with_reducible assumption) | assumption)
       obtain ⟨ad220, e220, hx220_0⟩ := Kd.at_int HR0.out x6_1 p220 q220
       cases e220
       replace hx220_0 := (HB.out.cell (World.block_lt_of_cell? w _ hx220_0)).trans hx220_0
       replace p220 := eq_true p220
       replace q220 := eq_true q220
       have p221 : 0 ≤ (x6_1 : Int) := of_decide_eq_true (by first | (with_reducible assumption) | assumption)
       have q221 : x6_1 < (l0.length : Int) := of_decide_eq_true (by first | (with_reducible assumption) | assumption)
       obtain ⟨ad221, e221, hx221_0⟩ := Kd.at_int HR0.out x6_1 p221 q221
       obtain rfl : ad220 = ad221 := (by injection e221)
       replace hx221_0 := (HB.out.cell (World.block_lt_of_cell? w _ hx221_0)).trans hx221_0
       replace p221 := eq_true p221
       replace q221 := eq_true q221
       go_wp2_with (first | ((with_reducible refine gate_builtin (b := .append) (xs := #[.tmp 23, .tmp 28]) rfl ?_); (try (refine gate_guard (by rfl) ?_; dsimp only)); at_builtin; refine Kd.Q_append (Kd.int .i64) (w0 := w) w.heap.size rfl (.tmp 23) (.tmp 28) 46 2 (.int .i64 0) 8 rfl Tryd.underlying46 info2 rfl (by decide) (by omega) u4 x4_1 (rd l0 x6_1) [.int .i64 (rd l0 x6_1)] (fun k_ => some k_ ≠ (u5 : Value).ownBlock) (fun _ => False) rfl rfl ?aP (fun _ hk => hk.elim) ?aF ?aO ?aB ?aS ?aL ?_; (case aP => exact rfl); (case aB => exact (by repeat (first | (with_reducible first | exact HB.out | apply below_alloc | apply pw_below_drewN | apply below_drew1) | exact HB.out))); (case aF => exact (fun k_ hk => Kd.fresh' (Kd.Q_lt (by (with_reducible repeat (first | apply Kd.Q_alloc | apply Kd.Q_drewN | apply Kd.Q_drew)); exact HO_5.out)) k_ hk)); (case aO => exact (by (with_reducible repeat (first | apply Kd.Q_alloc | apply Kd.Q_drewN | apply Kd.Q_drew)); exact HO_4.out)); (case aS => exact (below_size (by repeat (first | (with_reducible first | exact HB.out | apply below_alloc | apply pw_below_drewN | apply below_drew1) | exact HB.out)))); (case aL => have := LMc5.out; omega); intro v223 w6 ho hb hg hat; rw [← Ny222.out] at ho; have n0_ := Aside0.mk (Kd.Q_after (ok := (fun _ => True)) (by (with_reducible repeat (first | apply Kd.Q_alloc | apply Kd.Q_drewN | apply Kd.Q_drew)); exact Kd.Q_mono HO_5.out (fun _ hk => ⟨trivial, hk⟩)) hg hat); have n1_ := Aside0.mk (hb); have n2_ := Aside0.mk (ho); clear HO_5; clear HB; clear HO_4; have HO_5 := n0_; have HB := n1_; have HO224 := n2_; clear n0_ n1_ n2_; clear ho hb hg hat))
       go_roundg k1
       case measure => have := HK1.out; omega
       case rel => exact ⟨(y222), (x5_1), (wrap64 (x6_1 + 1)), (by first | rfl | (simp; done) | (simp [*]; done)), H', ⟨by have := HK1.out; omega⟩, ⟨by (with_reducible repeat (first | apply Kd.Q_alloc | apply Kd.Q_drewN | apply Kd.Q_drew)); exact HO224.out⟩, ⟨by (with_reducible repeat (first | apply Kd.Q_alloc | apply Kd.Q_drewN | apply Kd.Q_drew)); exact Kd.Q_mono HO_5.out (fun _ hk => hk.2)⟩, ⟨by repeat (first | (with_reducible first | exact HB.out | apply below_alloc | apply pw_below_drewN | apply below_drew1) | exact HB.out)⟩⟩
      ·rw [if_neg c5] at H
       exact absurd H (by simp)
     ·rw [if_neg c4] at H
      have c4b0 : decide (0 ≤ (rd l0 x6_1)) = false := decide_eq_false c4
      clear c4
      by_cases c7 : x5_1.length < 17592186044416
      ·rw [if_pos c7] at H
       have LMc7 := Aside0.mk c7
       clear c7
       obtain ⟨y226, hy226⟩ : ∃ y_ : List Int, y_ = (x5_1 ++ [rd l0 x6_1]) := ⟨_, rfl⟩
       replace H : (cambistref01_Sum.l0 k1 l0 x4_1 y226 (wrap64 (x6_1 + 1))) = some (r1, r2) := by first | (rw [hy226]; with_reducible exact H) | (have H2_ := (Option.bind_some _ _).symm.trans H; rw [hy226]; with_reducible exact H2_) | (have H2_ := (Option.bind_some _ _).symm.trans H; with_reducible exact H2_) | with_reducible exact H | (rw [hy226]; exact H) | exact H
       have Ny226 := Aside0.mk hy226
       clear hy226
       have H' := Aside0.mk H
       clear H
       have p220 : 0 ≤ (x6_1 : Int) := of_decide_eq_true (by first | (with_reducible assumption) | assumption)
       have q220 : x6_1 < (l0.length : Int) := of_decide_eq_true (by first | (with_reducible assumption) | assumption)
       obtain ⟨ad220, e220, hx220_0⟩ := Kd.at_int HR0.out x6_1 p220 q220
       cases e220
       replace hx220_0 := (HB.out.cell (World.block_lt_of_cell? w _ hx220_0)).trans hx220_0
       replace p220 := eq_true p220
       replace q220 := eq_true q220
       have p225 : 0 ≤ (x6_1 : Int) := of_decide_eq_true (by first | (with_reducible assumption) | assumption)
       have q225 : x6_1 < (l0.length : Int) := of_decide_eq_true (by first | (with_reducible assumption) | assumption)
       obtain ⟨ad225, e225, hx225_0⟩ := Kd.at_int HR0.out x6_1 p225 q225
       obtain rfl : ad220 = ad225 := (by injection e225)
       replace hx225_0 := (HB.out.cell (World.block_lt_of_cell? w _ hx225_0)).trans hx225_0
       replace p225 := eq_true p225
       replace q225 := eq_true q225
       go_wp2_with (first | ((with_reducible refine gate_builtin (b := .append) (xs := #[.tmp 30, .tmp 35]) rfl ?_); (try (refine gate_guard (by rfl) ?_; dsimp only)); at_builtin; refine Kd.Q_append (Kd.int .i64) (w0 := w) w.heap.size rfl (.tmp 30) (.tmp 35) 46 2 (.int .i64 0) 8 rfl Tryd.underlying46 info2 rfl (by decide) (by omega) u5 x5_1 (rd l0 x6_1) [.int .i64 (rd l0 x6_1)] (fun k_ => some k_ ≠ (u4 : Value).ownBlock) (fun _ => False) rfl rfl ?aP (fun _ hk => hk.elim) ?aF ?aO ?aB ?aS ?aL ?_; (case aP => exact rfl); (case aB => exact (by repeat (first | (with_reducible first | exact HB.out | apply below_alloc | apply pw_below_drewN | apply below_drew1) | exact HB.out))); (case aF => exact (fun k_ hk => Kd.fresh' (Kd.Q_lt (by (with_reducible repeat (first | apply Kd.Q_alloc | apply Kd.Q_drewN | apply Kd.Q_drew)); exact HO_4.out)) k_ hk)); (case aO => exact (by (with_reducible repeat (first | apply Kd.Q_alloc | apply Kd.Q_drewN | apply Kd.Q_drew)); exact HO_5.out)); (case aS => exact (below_size (by repeat (first | (with_reducible first | exact HB.out | apply below_alloc | apply pw_below_drewN | apply below_drew1) | exact HB.out)))); (case aL => have := LMc7.out; omega); intro v227 w8 ho hb hg hat; rw [← Ny226.out] at ho; have n0_ := Aside0.mk (Kd.Q_after (ok := (fun _ => True)) (by (with_reducible repeat (first | apply Kd.Q_alloc | apply Kd.Q_drewN | apply Kd.Q_drew)); exact Kd.Q_mono HO_4.out (fun _ hk => ⟨trivial, hk⟩)) hg hat); have n1_ := Aside0.mk (hb); have n2_ := Aside0.mk (ho); clear HO_4; clear HB; clear HO_5; have HO_4 := n0_; have HB := n1_; have HO228 := n2_; clear n0_ n1_ n2_; clear ho hb hg hat))
       go_roundg k1
       case measure => have := HK1.out; omega
       case rel => exact ⟨(x4_1), (y226), (wrap64 (x6_1 + 1)), (by first | rfl | (simp; done) | (simp [*]; done)), H', ⟨by have := HK1.out; omega⟩, ⟨by (with_reducible repeat (first | apply Kd.Q_alloc | apply Kd.Q_drewN | apply Kd.Q_drew)); exact Kd.Q_mono HO_4.out (fun _ hk => hk.2)⟩, ⟨by (with_reducible repeat (first | apply Kd.Q_alloc | apply Kd.Q_drewN | apply Kd.Q_drew)); exact HO228.out⟩, ⟨by repeat (first | (with_reducible first | exact HB.out | apply below_alloc | apply pw_below_drewN | apply below_drew1) | exact HB.out)⟩⟩
      ·rw [if_neg c7] at H
       exact absurd H (by simp)
    ·rw [if_neg c3] at H
     exact absurd H (by simp)
   ·rw [if_neg c2] at H
    have c2b0 : decide (x6_1 < (l0.length : Int)) = false := decide_eq_false c2
    clear c2
    have H' := Aside0.mk H
    clear H
    go_wp2
    go_loopg [4, 5, 7] k1 (fun kq v4 v5 v7 w' => ∃ (x4_2 : List Int) (x5_2 : List Int) (x7_2 : Int), v7 = .int .i64 x7_2 ∧ Aside0 (cambistref01_Sum.l1 kq x4_2 x5_2 x7_2 = some (r1, r2)) ∧ Aside0 (kq ≤ k1) ∧ Aside0 (Kd.Q (Kd.int .i64) 2 w' w.heap.size (fun k_ => some k_ ≠ (v5 : Value).ownBlock) v4 x4_2) ∧ Aside0 (Kd.Q (Kd.int .i64) 2 w' w.heap.size (fun k_ => some k_ ≠ (v4 : Value).ownBlock) v5 x5_2) ∧ Aside0 (Below w.heap.size w w'))
    case atStart => exact ⟨(x4_1), (x5_1), (0), (by first | rfl | (simp; done) | (simp [*]; done)), H', ⟨Nat.le_refl _⟩, ⟨by (with_reducible repeat (first | apply Kd.Q_alloc | apply Kd.Q_drewN | apply Kd.Q_drew)); exact HO_4.out⟩, ⟨by (with_reducible repeat (first | apply Kd.Q_alloc | apply Kd.Q_drewN | apply Kd.Q_drew)); exact HO_5.out⟩, ⟨by repeat (first | (with_reducible first | exact HB.out | apply below_alloc | apply pw_below_drewN | apply below_drew1) | exact HB.out)⟩⟩
    case round =>
     clear H'
     try clear c2
     try clear c2b0
     try clear p2
     try clear q2
     try clear hx2
     try clear c3
     try clear c3b0
     try clear c4
     try clear c4b0
     try clear c5
     try clear p6
     try clear c7
     try clear hx220_0
     try clear hx221_0
     try clear hx225_0
     try clear p220
     try clear p221
     try clear p225
     try clear q220
     try clear q221
     try clear q225
     obtain ⟨x4_2, x5_2, x7_2, rfl, HA, HK2, HO_4, HO_5, HB⟩ := hrel
     cases gk with
     | zero => exact absurd HA.out (by simp [cambistref01_Sum.l1])
     | succ k2 =>
      have H := HA.out
      clear HA
      simp only [cambistref01_Sum.l1] at H
      have HC9 := Aside0.mk H
      clear H
      go_upto_region 10 with (fail)
      go_cut [44] (fun v44 wc => ∃ (kq : Nat) (x44_8 : Bool), v44 = .bool x44_8 ∧ Aside0 (cambistref01_Sum.j2 kq x4_2 x5_2 x7_2 x44_8 = some (r1, r2)) ∧ Aside0 (kq ≤ k2) ∧ Aside0 (Kd.Q (Kd.int .i64) 2 wc w.heap.size (fun k_ => some k_ ≠ (u5 : Value).ownBlock) u4 x4_2) ∧ Aside0 (Kd.Q (Kd.int .i64) 2 wc w.heap.size (fun k_ => some k_ ≠ (u4 : Value).ownBlock) u5 x5_2) ∧ Aside0 (Below w.heap.size w wc))
      case first =>
       have H := HC9.out
       clear HC9
       by_cases c10 : (x4_2.length : Int) > 0
       ·rw [if_pos c10] at H
        have c10b0 : decide (0 < (x4_2.length : Int)) = true := decide_eq_true c10
        have c10b1 : decide (0 < x4_2.length) = true := decide_eq_true (by omega)
        clear c10
        (first | rw [c10b0] | (simp only [i64_w, i32_w]; rw [c10b0]) | skip)
        have H' := Aside0.mk H
        clear H
        obtain ⟨Ao11, co11, eo11, _⟩ := Kd.Q_slice HO_4.out
        subst eo11
        go_wp2
        go_meet
        case rel => exact ⟨_, (true), (by first | rfl | (simp; done) | (simp [*]; done)), H', ⟨by have := HK1.out; have := HK2.out; first | omega | exact Nat.le_refl _⟩, ⟨by (with_reducible repeat (first | apply Kd.Q_alloc | apply Kd.Q_drewN | apply Kd.Q_drew)); exact HO_4.out⟩, ⟨by (with_reducible repeat (first | apply Kd.Q_alloc | apply Kd.Q_drewN | apply Kd.Q_drew)); exact HO_5.out⟩, ⟨by repeat (first | (with_reducible first | exact HB.out | apply below_alloc | apply pw_below_drewN | apply below_drew1) | exact HB.out)⟩⟩
       ·rw [if_neg c10] at H
        have c10b0 : decide (0 < (x4_2.length : Int)) = false := decide_eq_false c10
        have c10b1 : decide (0 < x4_2.length) = false := decide_eq_false (by omega)
        clear c10
        (first | rw [c10b0] | (simp only [i64_w, i32_w]; rw [c10b0]) | skip)
        have H' := Aside0.mk H
        clear H
        obtain ⟨Ao12, co12, eo12, _⟩ := Kd.Q_slice HO_4.out
        subst eo12
        obtain ⟨Ao13, co13, eo13, _⟩ := Kd.Q_slice HO_5.out
        subst eo13
        go_wp2
        go_meet
        case rel => exact ⟨_, (decide ((x5_2.length : Int) > 0)), (by first | rfl | (simp; done) | (simp [*]; done)), H', ⟨by have := HK1.out; have := HK2.out; first | omega | exact Nat.le_refl _⟩, ⟨by (with_reducible repeat (first | apply Kd.Q_alloc | apply Kd.Q_drewN | apply Kd.Q_drew)); exact HO_4.out⟩, ⟨by (with_reducible repeat (first | apply Kd.Q_alloc | apply Kd.Q_drewN | apply Kd.Q_drew)); exact HO_5.out⟩, ⟨by repeat (first | (with_reducible first | exact HB.out | apply below_alloc | apply pw_below_drewN | apply below_drew1) | exact HB.out)⟩⟩
      case rest =>
       clear HC9
       try clear c1
       try clear c2
       try clear c2b0
       try clear p2
       try clear q2
       try clear hx2
       try clear c3
       try clear c3b0
       try clear c4
       try clear c4b0
       try clear c5
       try clear p6
       try clear c7
       try clear c10
       try clear c10b0
       try clear c10b1
       try clear hx220_0
       try clear hx221_0
       try clear hx225_0
       try clear p2
       try clear p220
       try clear p221
       try clear p225
       try clear p6
       try clear q2
       try clear q220
       try clear q221
       try clear q225
       obtain ⟨kq, x44_8, rfl, HA, HJ8, HO_4, HO_5, HB⟩ := hcut
       cases kq with
       | zero => exact absurd HA.out (by simp [cambistref01_Sum.j2])
       | succ kj8 =>
        have H := HA.out
        clear HA
        simp only [cambistref01_Sum.j2] at H
        by_cases c14 : x44_8 = true
        ·subst c14
         have H1 : (if (x4_2.length : Int) > 0 then (if x7_2 < 0 then (cambistref01_Sum.j3 kj8 x4_2 x5_2 x7_2 true) else (if (x5_2.length : Int) = 0 then (cambistref01_Sum.j3 kj8 x4_2 x5_2 x7_2 true) else (cambistref01_Sum.j3 kj8 x4_2 x5_2 x7_2 ((x5_2.length : Int) == 0)))) else (cambistref01_Sum.j3 kj8 x4_2 x5_2 x7_2 ((x5_2.length : Int) == 0))) = some (r1, r2) := by rw [if_pos rfl] at H; exact H
         clear H
         have H := H1
         clear H1
         have HC15 := Aside0.mk H
         clear H
         go_upto_region 11 with (fail)
         go_cut [61] (fun v61 wc => ∃ (kq : Nat) (x61_14 : Bool), v61 = .bool x61_14 ∧ Aside0 (cambistref01_Sum.j3 kq x4_2 x5_2 x7_2 x61_14 = some (r1, r2)) ∧ Aside0 (kq ≤ kj8) ∧ Aside0 (Kd.Q (Kd.int .i64) 2 wc w.heap.size (fun k_ => some k_ ≠ (u5 : Value).ownBlock) u4 x4_2) ∧ Aside0 (Kd.Q (Kd.int .i64) 2 wc w.heap.size (fun k_ => some k_ ≠ (u4 : Value).ownBlock) u5 x5_2) ∧ Aside0 (Below w.heap.size w wc))
         case first =>
          have H := HC15.out
          clear HC15
          by_cases c16 : (x4_2.length : Int) > 0
          ·rw [if_pos c16] at H
           have c16b0 : decide (0 < (x4_2.length : Int)) = true := decide_eq_true c16
           have c16b1 : decide (0 < x4_2.length) = true := decide_eq_true (by omega)
           clear c16
           (first | rw [c16b0] | (simp only [i64_w, i32_w]; rw [c16b0]) | skip)
           by_cases c17 : x7_2 < 0
           ·rw [if_pos c17] at H
            have c17b0 : decide (x7_2 < 0) = true := decide_eq_true c17
            clear c17
            have H' := Aside0.mk H
            clear H
            obtain ⟨Ao18, co18, eo18, _⟩ := Kd.Q_slice HO_4.out
            subst eo18
            go_wp2
            go_meet
            case rel => exact ⟨_, (true), (by first | rfl | (simp; done) | (simp [*]; done)), H', ⟨by have := HK1.out; have := HK2.out; have := HJ8.out; first | omega | exact Nat.le_refl _⟩, ⟨by (with_reducible repeat (first | apply Kd.Q_alloc | apply Kd.Q_drewN | apply Kd.Q_drew)); exact HO_4.out⟩, ⟨by (with_reducible repeat (first | apply Kd.Q_alloc | apply Kd.Q_drewN | apply Kd.Q_drew)); exact HO_5.out⟩, ⟨by repeat (first | (with_reducible first | exact HB.out | apply below_alloc | apply pw_below_drewN | apply below_drew1) | exact HB.out)⟩⟩
           ·rw [if_neg c17] at H
            have c17b0 : decide (x7_2 < 0) = false := decide_eq_false c17
            clear c17
            by_cases c19 : (x5_2.length : Int) = 0
            ·rw [if_pos c19] at H
             have c19b0 : ((x5_2.length : Int) == 0) = true := beq_iff_eq.mpr c19
             have c19b1 : ((x5_2.length : Int) != 0) = false := bne_eq_false_iff_eq.mpr c19
             clear c19
             have H' := Aside0.mk H
             clear H
             obtain ⟨Ao20, co20, eo20, _⟩ := Kd.Q_slice HO_4.out
             subst eo20
             obtain ⟨Ao21, co21, eo21, _⟩ := Kd.Q_slice HO_5.out
             subst eo21
             go_wp2
             go_meet
             case rel => exact ⟨_, (true), (by first | rfl | (simp; done) | (simp [*]; done)), H', ⟨by have := HK1.out; have := HK2.out; have := HJ8.out; first | omega | exact Nat.le_refl _⟩, ⟨by (with_reducible repeat (first | apply Kd.Q_alloc | apply Kd.Q_drewN | apply Kd.Q_drew)); exact HO_4.out⟩, ⟨by (with_reducible repeat (first | apply Kd.Q_alloc | apply Kd.Q_drewN | apply Kd.Q_drew)); exact HO_5.out⟩, ⟨by repeat (first | (with_reducible first | exact HB.out | apply below_alloc | apply pw_below_drewN | apply below_drew1) | exact HB.out)⟩⟩
            ·rw [if_neg c19] at H
             have c19b0 : ((x5_2.length : Int) == 0) = false := beq_eq_false_iff_ne.mpr c19
             have c19b1 : ((x5_2.length : Int) != 0) = true := bne_iff_ne.mpr c19
             have c19b2 : ¬ (x5_2 = []) := fun h_ => c19 (by rw [h_]; rfl)
             have H' := Aside0.mk H
             clear H
             obtain ⟨Ao22, co22, eo22, _⟩ := Kd.Q_slice HO_4.out
             subst eo22
             obtain ⟨Ao23, co23, eo23, _⟩ := Kd.Q_slice HO_5.out
             subst eo23
             go_wp2
             go_meet
             case rel => exact ⟨_, (((x5_2.length : Int) == 0)), (by first | rfl | (simp; done) | (simp [*]; done)), H', ⟨by have := HK1.out; have := HK2.out; have := HJ8.out; first | omega | exact Nat.le_refl _⟩, ⟨by (with_reducible repeat (first | apply Kd.Q_alloc | apply Kd.Q_drewN | apply Kd.Q_drew)); exact HO_4.out⟩, ⟨by (with_reducible repeat (first | apply Kd.Q_alloc | apply Kd.Q_drewN | apply Kd.Q_drew)); exact HO_5.out⟩, ⟨by repeat (first | (with_reducible first | exact HB.out | apply below_alloc | apply pw_below_drewN | apply below_drew1) | exact HB.out)⟩⟩
          ·rw [if_neg c16] at H
           have c16b0 : decide (0 < (x4_2.length : Int)) = false := decide_eq_false c16
           have c16b1 : decide (0 < x4_2.length) = false := decide_eq_false (by omega)
           clear c16
           (first | rw [c16b0] | (simp only [i64_w, i32_w]; rw [c16b0]) | skip)
           have H' := Aside0.mk H
           clear H
           obtain ⟨Ao24, co24, eo24, _⟩ := Kd.Q_slice HO_4.out
           subst eo24
           obtain ⟨Ao25, co25, eo25, _⟩ := Kd.Q_slice HO_5.out
           subst eo25
           go_wp2
           go_meet
           case rel => exact ⟨_, (((x5_2.length : Int) == 0)), (by first | rfl | (simp; done) | (simp [*]; done)), H', ⟨by have := HK1.out; have := HK2.out; have := HJ8.out; first | omega | exact Nat.le_refl _⟩, ⟨by (with_reducible repeat (first | apply Kd.Q_alloc | apply Kd.Q_drewN | apply Kd.Q_drew)); exact HO_4.out⟩, ⟨by (with_reducible repeat (first | apply Kd.Q_alloc | apply Kd.Q_drewN | apply Kd.Q_drew)); exact HO_5.out⟩, ⟨by repeat (first | (with_reducible first | exact HB.out | apply below_alloc | apply pw_below_drewN | apply below_drew1) | exact HB.out)⟩⟩
         case rest =>
          clear HC15
          try clear c1
          try clear c2
          try clear c2b0
          try clear p2
          try clear q2
          try clear hx2
          try clear c3
          try clear c3b0
          try clear c4
          try clear c4b0
          try clear c5
          try clear p6
          try clear c7
          try clear c10
          try clear c10b0
          try clear c10b1
          try clear c14
          try clear c16
          try clear c16b0
          try clear c16b1
          try clear c17
          try clear c17b0
          try clear c19
          try clear c19b0
          try clear c19b1
          try clear c19b2
          try clear p22
          try clear q22
          try clear hx22
          try clear hx220_0
          try clear hx221_0
          try clear hx225_0
          try clear p2
          try clear p220
          try clear p221
          try clear p225
          try clear p6
          try clear q2
          try clear q220
          try clear q221
          try clear q225
          obtain ⟨kq, x61_14, rfl, HA, HJ14, HO_4, HO_5, HB⟩ := hcut
          cases kq with
          | zero => exact absurd HA.out (by simp [cambistref01_Sum.j3])
          | succ kj14 =>
           have H := HA.out
           clear HA
           simp only [cambistref01_Sum.j3] at H
           by_cases c26 : x61_14 = true
           ·subst c26
            have H1 : (if 0 < (x4_2.length : Int) then ((cambistref01_Add.f x7_2 (rd x4_2 0)).bind fun bt230 => (if bt230.2 = 0 then (if 1 ≤ (x4_2.length : Int) then (cambistref01_Sum.l1 kj14 (x4_2.drop (1 : Int).toNat) x5_2 bt230.1) else (none)) else (some (0, bt230.2)))) else (none)) = some (r1, r2) := by rw [if_pos rfl] at H; exact H
            clear H
            have H := H1
            clear H1
            by_cases c27 : 0 < (x4_2.length : Int)
            ·rw [if_pos c27] at H
             have c27b0 : decide (0 < (x4_2.length : Int)) = true := decide_eq_true c27
             have c27b1 : decide (0 < x4_2.length) = true := decide_eq_true (by omega)
             clear c27
             replace H := Option.bind_eq_some_iff.mp H
             obtain ⟨⟨t230, t231⟩, A280, H⟩ := H
             replace H : (if t231 = 0 then (if 1 ≤ (x4_2.length : Int) then (cambistref01_Sum.l1 kj14 (x4_2.drop (1 : Int).toNat) x5_2 t230) else (none)) else (some (0, t231))) = some (r1, r2) := H
             have A28 := Aside0.mk A280
             clear A280
             by_cases c29 : t231 = 0
             ·rw [if_pos c29] at H
              have c29b0 : (t231 == 0) = true := beq_iff_eq.mpr c29
              have c29b1 : (t231 != 0) = false := bne_eq_false_iff_eq.mpr c29
              clear c29
              by_cases c30 : 1 ≤ (x4_2.length : Int)
              ·rw [if_pos c30] at H
               have c30b0 := eq_true c30
               have c30b1 : decide (1 ≤ (x4_2.length : Int)) = true := decide_eq_true c30
               clear c30
               obtain ⟨y232, hy232⟩ : ∃ y_ : List Int, y_ = (x4_2.drop (1 : Int).toNat) := ⟨_, rfl⟩
               replace H : (cambistref01_Sum.l1 kj14 y232 x5_2 t230) = some (r1, r2) := by first | (rw [hy232]; with_reducible exact H) | (have H2_ := (Option.bind_some _ _).symm.trans H; rw [hy232]; with_reducible exact H2_) | (have H2_ := (Option.bind_some _ _).symm.trans H; with_reducible exact H2_) | with_reducible exact H | (rw [hy232]; exact H) | exact H
               have Ny232 := Aside0.mk hy232
               clear hy232
               have H' := Aside0.mk H
               clear H
               obtain ⟨Ao31, co31, eo31, _⟩ := Kd.Q_slice HO_4.out
               subst eo31
               have p229 : 0 ≤ (0 : Int) := (by omega)
               have q229 : 0 < (x4_2.length : Int) := of_decide_eq_true (by first | (with_reducible assumption) | assumption)
               obtain ⟨ad229, e229, hx229_0⟩ := Kd.at_int (Kd.Q_reads' HO_4.out).2.2 0 p229 q229
               cases e229
               have qi229 : (0 < x4_2.length) = True := eq_true (by omega)
               (try rw [show ((0 : Int)).toNat = 0 from rfl] at hx229_0)
               (try rw [Addr.add_zero'] at hx229_0)
               replace p229 := eq_true p229
               replace q229 := eq_true q229
               go_wp2_with (first | ((with_reducible refine gate_callee (f := 55) rfl ?_); refine goesL_ (some 67) rfl rfl Tryd.func55 (by kernel_rfl) rfl #[.int .i64 x7_2, .int .i64 (rd x4_2 0)] rfl (by (try simp only [List.map_toArray, List.map_cons, List.map_nil]); first | done | rfl | (simp only [List.length_drop, List.length_take]; rfl)) ?_; (with_reducible refine (cambistref01_Add.calls x7_2 (rd x4_2 0) t230 t231 _ ?side1 A28.out).mono ?_); (case side1 => exact Glob.below HG.out (by repeat (first | (with_reducible first | exact HB.out | apply below_alloc | apply pw_below_drewN | apply below_drew1) | exact HB.out))); rintro e w' ⟨rfl, ⟨nd, rfl⟩⟩; refine ⟨_, rfl, ?_⟩; (try clear hcut18); (try clear hcut19); (try clear hcut20); (try clear hcut21); (try clear hcut22); (try clear hcut23); (try clear hcut24); (try clear hcut25); (try clear hcut26); (try clear hcut27); (try clear hcut28); (try clear hcut29); (try clear hcut30); (try clear hcut31); have q32 : (1 : Int) ≤ ((x4_2.length : Int) : Int) := of_decide_eq_true (by first | (with_reducible assumption) | assumption); obtain ⟨i032, hi032, _, hsz32, _⟩ := info_parts info2; have hcut32 := cut_from (P := Tryd.prog) 46 2 .i64 Tryd.underlying46 hi032 1 hsz32 (some ad229) x4_2.length co31 1 (by omega) q32; have hr32 := Kd.Q_drop (k := (1 : Int).toNat) HO_4.out (by omega); obtain ⟨A32, hA32⟩ : ∃ A1, A1 = (if co31 = (1 : Int).toNat then (some ad229) else ((some ad229) : Option Addr).map (·.add ((1 : Int).toNat * 1))) := ⟨_, rfl⟩; obtain ⟨c32, hc32⟩ : ∃ c1, c1 = co31 - (1 : Int).toNat := ⟨_, rfl⟩; have hy32 : y232.length = x4_2.length - (1 : Int).toNat := (by rw [Ny232.out, List.length_drop]); rw [← Ny232.out] at hr32; rw [← hy32, ← hA32, ← hc32] at hcut32; replace hr32 : Kd.Q (Kd.int .i64) 2 _ w.heap.size (fun k_ => some k_ ≠ (u5 : Value).ownBlock) (.slice A32 y232.length c32) y232 := (by rw [hA32, hc32, hy32]; exact hr32); have HE32 : Aside0 ((Value.slice A32 y232.length c32).ownBlock = (.slice (some ad229) x4_2.length co31 : Value).ownBlock) := ⟨by rw [hA32]; split <;> (cases ((some ad229) : Option Addr) <;> rfl)⟩; clear hy32 hi032 hsz32 hA32 hc32; have HO234 := Aside0.mk hr32; clear hr32; replace q32 := eq_true q32; have n_ := Aside0.mk (Kd.Q_mono (ok' := fun k_ => some k_ ≠ (.slice A32 y232.length c32 : Value).ownBlock) HO_5.out (fun k_ hk => (by rw [HE32.out]; exact hk))); clear HO_5; have HO_5 := n_; clear n_))
               go_roundg kj14
               case measure => have := HK1.out; have := HK2.out; have := HJ8.out; have := HJ14.out; omega
               case rel => exact ⟨(y232), (x5_2), (t230), (by first | rfl | (simp; done) | (simp [*]; done)), H', ⟨by have := HK1.out; have := HK2.out; have := HJ8.out; have := HJ14.out; omega⟩, ⟨by (with_reducible repeat (first | apply Kd.Q_alloc | apply Kd.Q_drewN | apply Kd.Q_drew)); exact HO234.out⟩, ⟨by (with_reducible repeat (first | apply Kd.Q_alloc | apply Kd.Q_drewN | apply Kd.Q_drew)); exact HO_5.out⟩, ⟨by repeat (first | (with_reducible first | exact HB.out | apply below_alloc | apply pw_below_drewN | apply below_drew1) | exact HB.out)⟩⟩
              ·rw [if_neg c30] at H
               exact absurd H (by simp)
             ·rw [if_neg c29] at H
              have c29b0 : (t231 == 0) = false := beq_eq_false_iff_ne.mpr c29
              have c29b1 : (t231 != 0) = true := bne_iff_ne.mpr c29
              simp only [Option.some.injEq, Prod.mk.injEq] at H
              obtain ⟨rfl, rfl⟩ := H
              obtain ⟨Ao33, co33, eo33, _⟩ := Kd.Q_slice HO_4.out
              subst eo33
              have p229 : 0 ≤ (0 : Int) := (by omega)
              have q229 : 0 < (x4_2.length : Int) := of_decide_eq_true (by first | (with_reducible assumption) | assumption)
              obtain ⟨ad229, e229, hx229_0⟩ := Kd.at_int (Kd.Q_reads' HO_4.out).2.2 0 p229 q229
              cases e229
              have qi229 : (0 < x4_2.length) = True := eq_true (by omega)
              (try rw [show ((0 : Int)).toNat = 0 from rfl] at hx229_0)
              (try rw [Addr.add_zero'] at hx229_0)
              replace p229 := eq_true p229
              replace q229 := eq_true q229
              go_wp2_with (first | ((with_reducible refine gate_callee (f := 55) rfl ?_); refine goesL_ (some 67) rfl rfl Tryd.func55 (by kernel_rfl) rfl #[.int .i64 x7_2, .int .i64 (rd x4_2 0)] rfl (by (try simp only [List.map_toArray, List.map_cons, List.map_nil]); first | done | rfl | (simp only [List.length_drop, List.length_take]; rfl)) ?_; (with_reducible refine (cambistref01_Add.calls x7_2 (rd x4_2 0) t230 t231 _ ?side1 A28.out).mono ?_); (case side1 => exact Glob.below HG.out (by repeat (first | (with_reducible first | exact HB.out | apply below_alloc | apply pw_below_drewN | apply below_drew1) | exact HB.out))); rintro e w' ⟨rfl, ⟨nd, rfl⟩⟩; refine ⟨_, rfl, ?_⟩))
              go_ret2
              exact ⟨by first | rfl | (simp [errW_none, errW_some] <;> rfl) | (simp [*, errW_none, errW_some] <;> rfl), by repeat (first | (with_reducible first | exact HB.out | apply below_alloc | apply pw_below_drewN | apply below_drew1) | exact HB.out)⟩
            ·rw [if_neg c27] at H
             exact absurd H (by simp)
           ·replace c26 := Bool.eq_false_iff.mpr c26
            subst c26
            have H1 : (if (x4_2.length : Int) > 0 then (if x7_2 ≥ 0 then (cambistref01_Sum.j4 kj14 x4_2 x5_2 x7_2 true) else (cambistref01_Sum.j4 kj14 x4_2 x5_2 x7_2 ((x4_2.length : Int) == 0))) else (cambistref01_Sum.j4 kj14 x4_2 x5_2 x7_2 ((x4_2.length : Int) == 0))) = some (r1, r2) := by rw [if_neg (show ¬ (false = true) by decide)] at H; exact H
            clear H
            have H := H1
            clear H1
            have HC34 := Aside0.mk H
            clear H
            go_upto_region 17 with (fail)
            go_cut [87] (fun v87 wc => ∃ (kq : Nat) (x87_33 : Bool), v87 = .bool x87_33 ∧ Aside0 (cambistref01_Sum.j4 kq x4_2 x5_2 x7_2 x87_33 = some (r1, r2)) ∧ Aside0 (kq ≤ kj14) ∧ Aside0 (Kd.Q (Kd.int .i64) 2 wc w.heap.size (fun k_ => some k_ ≠ (u5 : Value).ownBlock) u4 x4_2) ∧ Aside0 (Kd.Q (Kd.int .i64) 2 wc w.heap.size (fun k_ => some k_ ≠ (u4 : Value).ownBlock) u5 x5_2) ∧ Aside0 (Below w.heap.size w wc))
            case first =>
             have H := HC34.out
             clear HC34
             by_cases c35 : (x4_2.length : Int) > 0
             ·rw [if_pos c35] at H
              have c35b0 : decide (0 < (x4_2.length : Int)) = true := decide_eq_true c35
              have c35b1 : decide (0 < x4_2.length) = true := decide_eq_true (by omega)
              clear c35
              (first | rw [c35b0] | (simp only [i64_w, i32_w]; rw [c35b0]) | skip)
              by_cases c36 : x7_2 ≥ 0
              ·rw [if_pos c36] at H
               have c36b0 : decide (0 ≤ x7_2) = true := decide_eq_true c36
               clear c36
               have H' := Aside0.mk H
               clear H
               obtain ⟨Ao37, co37, eo37, _⟩ := Kd.Q_slice HO_4.out
               subst eo37
               go_wp2
               go_meet
               case rel => exact ⟨_, (true), (by first | rfl | (simp; done) | (simp [*]; done)), H', ⟨by have := HK1.out; have := HK2.out; have := HJ8.out; have := HJ14.out; first | omega | exact Nat.le_refl _⟩, ⟨by (with_reducible repeat (first | apply Kd.Q_alloc | apply Kd.Q_drewN | apply Kd.Q_drew)); exact HO_4.out⟩, ⟨by (with_reducible repeat (first | apply Kd.Q_alloc | apply Kd.Q_drewN | apply Kd.Q_drew)); exact HO_5.out⟩, ⟨by repeat (first | (with_reducible first | exact HB.out | apply below_alloc | apply pw_below_drewN | apply below_drew1) | exact HB.out)⟩⟩
              ·rw [if_neg c36] at H
               have c36b0 : decide (0 ≤ x7_2) = false := decide_eq_false c36
               clear c36
               have H' := Aside0.mk H
               clear H
               obtain ⟨Ao38, co38, eo38, _⟩ := Kd.Q_slice HO_4.out
               subst eo38
               go_wp2
               go_meet
               case rel => exact ⟨_, (((x4_2.length : Int) == 0)), (by first | rfl | (simp; done) | (simp [*]; done)), H', ⟨by have := HK1.out; have := HK2.out; have := HJ8.out; have := HJ14.out; first | omega | exact Nat.le_refl _⟩, ⟨by (with_reducible repeat (first | apply Kd.Q_alloc | apply Kd.Q_drewN | apply Kd.Q_drew)); exact HO_4.out⟩, ⟨by (with_reducible repeat (first | apply Kd.Q_alloc | apply Kd.Q_drewN | apply Kd.Q_drew)); exact HO_5.out⟩, ⟨by repeat (first | (with_reducible first | exact HB.out | apply below_alloc | apply pw_below_drewN | apply below_drew1) | exact HB.out)⟩⟩
             ·rw [if_neg c35] at H
              have c35b0 : decide (0 < (x4_2.length : Int)) = false := decide_eq_false c35
              have c35b1 : decide (0 < x4_2.length) = false := decide_eq_false (by omega)
              clear c35
              (first | rw [c35b0] | (simp only [i64_w, i32_w]; rw [c35b0]) | skip)
              have H' := Aside0.mk H
              clear H
              obtain ⟨Ao39, co39, eo39, _⟩ := Kd.Q_slice HO_4.out
              subst eo39
              go_wp2
              go_meet
              case rel => exact ⟨_, (((x4_2.length : Int) == 0)), (by first | rfl | (simp; done) | (simp [*]; done)), H', ⟨by have := HK1.out; have := HK2.out; have := HJ8.out; have := HJ14.out; first | omega | exact Nat.le_refl _⟩, ⟨by (with_reducible repeat (first | apply Kd.Q_alloc | apply Kd.Q_drewN | apply Kd.Q_drew)); exact HO_4.out⟩, ⟨by (with_reducible repeat (first | apply Kd.Q_alloc | apply Kd.Q_drewN | apply Kd.Q_drew)); exact HO_5.out⟩, ⟨by repeat (first | (with_reducible first | exact HB.out | apply below_alloc | apply pw_below_drewN | apply below_drew1) | exact HB.out)⟩⟩
            case rest =>
             clear HC34
             try clear c1
             try clear c2
             try clear c2b0
             try clear p2
             try clear q2
             try clear hx2
             try clear qi2
             try clear c3
             try clear c3b0
             try clear q3
             try clear c4
             try clear c4b0
             try clear c5
             try clear p6
             try clear c7
             try clear c10
             try clear c10b0
             try clear c10b1
             try clear c14
             try clear c16
             try clear c16b0
             try clear c16b1
             try clear c17
             try clear c17b0
             try clear c19
             try clear c19b0
             try clear c19b1
             try clear c19b2
             try clear p22
             try clear q22
             try clear hx22
             try clear qi22
             try clear c26
             try clear c27
             try clear c27b0
             try clear c27b1
             try clear c29
             try clear c29b0
             try clear c29b1
             try clear c30
             try clear c30b0
             try clear c30b1
             try clear c32
             try clear q32
             try clear c35
             try clear c35b0
             try clear c35b1
             try clear c36
             try clear c36b0
             try clear hx220_0
             try clear hx221_0
             try clear hx225_0
             try clear hx229_0
             try clear p2
             try clear p22
             try clear p220
             try clear p221
             try clear p225
             try clear p229
             try clear p6
             try clear q2
             try clear q22
             try clear q220
             try clear q221
             try clear q225
             try clear q229
             try clear q32
             obtain ⟨kq, x87_33, rfl, HA, HJ33, HO_4, HO_5, HB⟩ := hcut
             cases kq with
             | zero => exact absurd HA.out (by simp [cambistref01_Sum.j4])
             | succ kj33 =>
              have H := HA.out
              clear HA
              simp only [cambistref01_Sum.j4] at H
              by_cases c40 : x87_33 = true
              ·subst c40
               have H1 : (if 0 < (x5_2.length : Int) then ((cambistref01_Add.f x7_2 (rd x5_2 0)).bind fun bt236 => (if bt236.2 = 0 then (if 1 ≤ (x5_2.length : Int) then (cambistref01_Sum.l1 kj33 x4_2 (x5_2.drop (1 : Int).toNat) bt236.1) else (none)) else (some (0, bt236.2)))) else (none)) = some (r1, r2) := by rw [if_pos rfl] at H; exact H
               clear H
               have H := H1
               clear H1
               by_cases c41 : 0 < (x5_2.length : Int)
               ·rw [if_pos c41] at H
                have c41b0 : decide (0 < (x5_2.length : Int)) = true := decide_eq_true c41
                have c41b1 : decide (0 < x5_2.length) = true := decide_eq_true (by omega)
                clear c41
                replace H := Option.bind_eq_some_iff.mp H
                obtain ⟨⟨t236, t237⟩, A420, H⟩ := H
                replace H : (if t237 = 0 then (if 1 ≤ (x5_2.length : Int) then (cambistref01_Sum.l1 kj33 x4_2 (x5_2.drop (1 : Int).toNat) t236) else (none)) else (some (0, t237))) = some (r1, r2) := H
                have A42 := Aside0.mk A420
                clear A420
                by_cases c43 : t237 = 0
                ·rw [if_pos c43] at H
                 have c43b0 : (t237 == 0) = true := beq_iff_eq.mpr c43
                 have c43b1 : (t237 != 0) = false := bne_eq_false_iff_eq.mpr c43
                 clear c43
                 by_cases c44 : 1 ≤ (x5_2.length : Int)
                 ·rw [if_pos c44] at H
                  have c44b0 := eq_true c44
                  have c44b1 : decide (1 ≤ (x5_2.length : Int)) = true := decide_eq_true c44
                  clear c44
                  obtain ⟨y238, hy238⟩ : ∃ y_ : List Int, y_ = (x5_2.drop (1 : Int).toNat) := ⟨_, rfl⟩
                  replace H : (cambistref01_Sum.l1 kj33 x4_2 y238 t236) = some (r1, r2) := by first | (rw [hy238]; with_reducible exact H) | (have H2_ := (Option.bind_some _ _).symm.trans H; rw [hy238]; with_reducible exact H2_) | (have H2_ := (Option.bind_some _ _).symm.trans H; with_reducible exact H2_) | with_reducible exact H | (rw [hy238]; exact H) | exact H
                  have Ny238 := Aside0.mk hy238
                  clear hy238
                  have H' := Aside0.mk H
                  clear H
                  obtain ⟨Ao45, co45, eo45, _⟩ := Kd.Q_slice HO_5.out
                  subst eo45
                  have p235 : 0 ≤ (0 : Int) := (by omega)
                  have q235 : 0 < (x5_2.length : Int) := of_decide_eq_true (by first | (with_reducible assumption) | assumption)
                  obtain ⟨ad235, e235, hx235_0⟩ := Kd.at_int (Kd.Q_reads' HO_5.out).2.2 0 p235 q235
                  cases e235
                  have qi235 : (0 < x5_2.length) = True := eq_true (by omega)
                  (try rw [show ((0 : Int)).toNat = 0 from rfl] at hx235_0)
                  (try rw [Addr.add_zero'] at hx235_0)
                  replace p235 := eq_true p235
                  replace q235 := eq_true q235
                  go_wp2_with (first | ((with_reducible refine gate_callee (f := 55) rfl ?_); refine goesL_ (some 93) rfl rfl Tryd.func55 (by kernel_rfl) rfl #[.int .i64 x7_2, .int .i64 (rd x5_2 0)] rfl (by (try simp only [List.map_toArray, List.map_cons, List.map_nil]); first | done | rfl | (simp only [List.length_drop, List.length_take]; rfl)) ?_; (with_reducible refine (cambistref01_Add.calls x7_2 (rd x5_2 0) t236 t237 _ ?side1 A42.out).mono ?_); (case side1 => exact Glob.below HG.out (by repeat (first | (with_reducible first | exact HB.out | apply below_alloc | apply pw_below_drewN | apply below_drew1) | exact HB.out))); rintro e w' ⟨rfl, ⟨nd, rfl⟩⟩; refine ⟨_, rfl, ?_⟩; (try clear hcut32); (try clear hcut33); (try clear hcut34); (try clear hcut35); (try clear hcut36); (try clear hcut37); (try clear hcut38); (try clear hcut39); (try clear hcut40); (try clear hcut41); (try clear hcut42); (try clear hcut43); (try clear hcut44); (try clear hcut45); have q46 : (1 : Int) ≤ ((x5_2.length : Int) : Int) := of_decide_eq_true (by first | (with_reducible assumption) | assumption); obtain ⟨i046, hi046, _, hsz46, _⟩ := info_parts info2; have hcut46 := cut_from (P := Tryd.prog) 46 2 .i64 Tryd.underlying46 hi046 1 hsz46 (some ad235) x5_2.length co45 1 (by omega) q46; have hr46 := Kd.Q_drop (k := (1 : Int).toNat) HO_5.out (by omega); obtain ⟨A46, hA46⟩ : ∃ A1, A1 = (if co45 = (1 : Int).toNat then (some ad235) else ((some ad235) : Option Addr).map (·.add ((1 : Int).toNat * 1))) := ⟨_, rfl⟩; obtain ⟨c46, hc46⟩ : ∃ c1, c1 = co45 - (1 : Int).toNat := ⟨_, rfl⟩; have hy46 : y238.length = x5_2.length - (1 : Int).toNat := (by rw [Ny238.out, List.length_drop]); rw [← Ny238.out] at hr46; rw [← hy46, ← hA46, ← hc46] at hcut46; replace hr46 : Kd.Q (Kd.int .i64) 2 _ w.heap.size (fun k_ => some k_ ≠ (u4 : Value).ownBlock) (.slice A46 y238.length c46) y238 := (by rw [hA46, hc46, hy46]; exact hr46); have HE46 : Aside0 ((Value.slice A46 y238.length c46).ownBlock = (.slice (some ad235) x5_2.length co45 : Value).ownBlock) := ⟨by rw [hA46]; split <;> (cases ((some ad235) : Option Addr) <;> rfl)⟩; clear hy46 hi046 hsz46 hA46 hc46; have HO240 := Aside0.mk hr46; clear hr46; replace q46 := eq_true q46; have n_ := Aside0.mk (Kd.Q_mono (ok' := fun k_ => some k_ ≠ (.slice A46 y238.length c46 : Value).ownBlock) HO_4.out (fun k_ hk => (by rw [HE46.out]; exact hk))); clear HO_4; have HO_4 := n_; clear n_))
                  go_roundg kj33
                  case measure => have := HK1.out; have := HK2.out; have := HJ8.out; have := HJ14.out; have := HJ33.out; omega
                  case rel => exact ⟨(x4_2), (y238), (t236), (by first | rfl | (simp; done) | (simp [*]; done)), H', ⟨by have := HK1.out; have := HK2.out; have := HJ8.out; have := HJ14.out; have := HJ33.out; omega⟩, ⟨by (with_reducible repeat (first | apply Kd.Q_alloc | apply Kd.Q_drewN | apply Kd.Q_drew)); exact HO_4.out⟩, ⟨by (with_reducible repeat (first | apply Kd.Q_alloc | apply Kd.Q_drewN | apply Kd.Q_drew)); exact HO240.out⟩, ⟨by repeat (first | (with_reducible first | exact HB.out | apply below_alloc | apply pw_below_drewN | apply below_drew1) | exact HB.out)⟩⟩
                 ·rw [if_neg c44] at H
                  exact absurd H (by simp)
                ·rw [if_neg c43] at H
                 have c43b0 : (t237 == 0) = false := beq_eq_false_iff_ne.mpr c43
                 have c43b1 : (t237 != 0) = true := bne_iff_ne.mpr c43
                 simp only [Option.some.injEq, Prod.mk.injEq] at H
                 obtain ⟨rfl, rfl⟩ := H
                 obtain ⟨Ao47, co47, eo47, _⟩ := Kd.Q_slice HO_5.out
                 subst eo47
                 have p235 : 0 ≤ (0 : Int) := (by omega)
                 have q235 : 0 < (x5_2.length : Int) := of_decide_eq_true (by first | (with_reducible assumption) | assumption)
                 obtain ⟨ad235, e235, hx235_0⟩ := Kd.at_int (Kd.Q_reads' HO_5.out).2.2 0 p235 q235
                 cases e235
                 have qi235 : (0 < x5_2.length) = True := eq_true (by omega)
                 (try rw [show ((0 : Int)).toNat = 0 from rfl] at hx235_0)
                 (try rw [Addr.add_zero'] at hx235_0)
                 replace p235 := eq_true p235
                 replace q235 := eq_true q235
                 go_wp2_with (first | ((with_reducible refine gate_callee (f := 55) rfl ?_); refine goesL_ (some 93) rfl rfl Tryd.func55 (by kernel_rfl) rfl #[.int .i64 x7_2, .int .i64 (rd x5_2 0)] rfl (by (try simp only [List.map_toArray, List.map_cons, List.map_nil]); first | done | rfl | (simp only [List.length_drop, List.length_take]; rfl)) ?_; (with_reducible refine (cambistref01_Add.calls x7_2 (rd x5_2 0) t236 t237 _ ?side1 A42.out).mono ?_); (case side1 => exact Glob.below HG.out (by repeat (first | (with_reducible first | exact HB.out | apply below_alloc | apply pw_below_drewN | apply below_drew1) | exact HB.out))); rintro e w' ⟨rfl, ⟨nd, rfl⟩⟩; refine ⟨_, rfl, ?_⟩))
                 go_ret2
                 exact ⟨by first | rfl | (simp [errW_none, errW_some] <;> rfl) | (simp [*, errW_none, errW_some] <;> rfl), by repeat (first | (with_reducible first | exact HB.out | apply below_alloc | apply pw_below_drewN | apply below_drew1) | exact HB.out)⟩
               ·rw [if_neg c41] at H
                exact absurd H (by simp)
              ·replace c40 := Bool.eq_false_iff.mpr c40
               subst c40
               have H1 : (cambistref01_Sum.l1 kj33 x4_2 x5_2 x7_2) = some (r1, r2) := by rw [if_neg (show ¬ (false = true) by decide)] at H; exact H
               clear H
               have H := H1
               clear H1
               have H' := Aside0.mk H
               clear H
               go_wp2
               go_roundg kj33
               case measure => have := HK1.out; have := HK2.out; have := HJ8.out; have := HJ14.out; have := HJ33.out; omega
               case rel => exact ⟨(x4_2), (x5_2), (x7_2), (by first | rfl | (simp; done) | (simp [*]; done)), H', ⟨by have := HK1.out; have := HK2.out; have := HJ8.out; have := HJ14.out; have := HJ33.out; omega⟩, ⟨by (with_reducible repeat (first | apply Kd.Q_alloc | apply Kd.Q_drewN | apply Kd.Q_drew)); exact HO_4.out⟩, ⟨by (with_reducible repeat (first | apply Kd.Q_alloc | apply Kd.Q_drewN | apply Kd.Q_drew)); exact HO_5.out⟩, ⟨by repeat (first | (with_reducible first | exact HB.out | apply below_alloc | apply pw_below_drewN | apply below_drew1) | exact HB.out)⟩⟩
        ·replace c14 := Bool.eq_false_iff.mpr c14
         subst c14
         have H1 : (some (x7_2, 0)) = some (r1, r2) := by rw [if_neg (show ¬ (false = true) by decide)] at H; exact H
         clear H
         have H := H1
         clear H1
         simp only [Option.some.injEq, Prod.mk.injEq] at H
         obtain ⟨rfl, rfl⟩ := H
         go_wp2
         go_ret2
         exact ⟨by first | rfl | (simp [errW_none, errW_some] <;> rfl) | (simp [*, errW_none, errW_some] <;> rfl), by repeat (first | (with_reducible first | exact HB.out | apply below_alloc | apply pw_below_drewN | apply below_drew1) | exact HB.out)⟩

/-! ### cambistref12_zero: function 32 -/
def cambistref12_zero.l0 : Nat → List (S42) → ByteArray → List Int → Int → Option (Bool)
 | 0, _, _, _, _ => none
 | k + 1, x0, x1, x5, x6 => if x6 < (x0.length : Int) then (if 0 ≤ x6 then (if ((rd_T42 x0 x6).f1).toList = x1.toList then (if x5.length < 17592186044416 then (cambistref12_zero.l0 k x0 x1 (x5 ++ [(rd_T42 x0 x6).f2]) (wrap64 (x6 + 1))) else (none)) else (cambistref12_zero.l0 k x0 x1 x5 (wrap64 (x6 + 1)))) else (none)) else ((cambistref01_Sum.f k x5).bind fun bt246 => (if bt246.1 = 0 then (some (bt246.2 == 0)) else (some false)))
def cambistref12_zero.f (k : Nat) (l0 : List (S42)) (a1 : ByteArray) : Option (Bool) := cambistref12_zero.l0 k l0 a1 ([] : List Int) 0
theorem cambistref12_zero.mono_l : ∀ k, (∀ y0 y1 y2 y3, LeO (cambistref12_zero.l0 k y0 y1 y2 y3) (cambistref12_zero.l0 (k + 1) y0 y1 y2 y3))
 | 0 => fun _ _ _ _ r h => by simp [cambistref12_zero.l0] at h
 | k + 1 => by
  have ih0 := cambistref12_zero.mono_l k
  ·intro y0 y1 y2 y3
   unfold cambistref12_zero.l0
   repeat' first
   | (with_reducible exact ih0 _ _ _ _)
   | (with_reducible exact cambistref01_Sum.mono _ _)
   | (with_reducible exact LeO.refl _)
   | (with_reducible exact LeO.none _)
   | (with_reducible refine LeO.ite ?_ ?_)
   | (with_reducible refine LeO.bind ?_ (fun _ => ?_))
   | exact ih0 _ _ _ _
   | exact cambistref01_Sum.mono _ _
   | exact LeO.none _
   | refine LeO.ite ?_ ?_
   | refine LeO.bind ?_ (fun _ => ?_)
theorem cambistref12_zero.mono : ∀ a0 a1 k, LeO (cambistref12_zero.f k a0 a1) (cambistref12_zero.f (k + 1) a0 a1) := by
 intro a0 a1 k
 have ih0 := cambistref12_zero.mono_l k
 unfold cambistref12_zero.f
 repeat' first
   | (with_reducible exact ih0 _ _ _ _)
   | (with_reducible exact cambistref01_Sum.mono _ _)
   | (with_reducible exact LeO.refl _)
   | (with_reducible exact LeO.none _)
   | (with_reducible refine LeO.ite ?_ ?_)
   | (with_reducible refine LeO.bind ?_ (fun _ => ?_))
   | exact ih0 _ _ _ _
   | exact cambistref01_Sum.mono _ _
   | exact LeO.none _
   | refine LeO.ite ?_ ?_
   | refine LeO.bind ?_ (fun _ => ?_)
set_option maxHeartbeats 8000000 in
set_option maxRecDepth 100000 in
theorem cambistref12_zero.calls (k : Nat) (A0 : Option Addr) (c0 : Nat) (l0 : List (S42)) (a1 : ByteArray) (r : Bool) (w : World) (hG : Glob w) (hr0 : Kd.C k42 w A0 l0.length l0) (hc0 : l0.length ≤ c0) (h : cambistref12_zero.f k l0 a1 = some r) :
  Calls Tryd.prog 32 #[.slice A0 l0.length c0, .string a1] w fun e w' => e = .returned (.bool r) ∧ Below w.heap.size w w' := by
 have HG := Aside0.mk hG
 clear hG
 have HR0 := Aside0.mk hr0
 have HC0 := Aside0.mk hc0
 clear hr0 hc0
 have HB := Aside0.mk (Below.refl w.heap.size w)
 have H : (cambistref12_zero.l0 k l0 a1 ([] : List Int) 0) = some r := h
 clear h
 have H' := Aside0.mk H
 clear H
 go_enter Tryd.func32, Tryd.ntmps32
 go_wp2
 go_loopg [5, 6] k (fun kq v5 v6 w' => ∃ (x5_1 : List Int) (x6_1 : Int), v6 = .int .i64 x6_1 ∧ Aside0 (cambistref12_zero.l0 kq l0 a1 x5_1 x6_1 = some r) ∧ Aside0 (kq ≤ k) ∧ Aside0 (Kd.R (Kd.int .i64) 2 w' w.heap.size (fun _ => True) v5 x5_1) ∧ Aside0 (Below w.heap.size w w'))
 case atStart => exact ⟨(([] : List Int)), (0), (by first | rfl | (simp; done) | (simp [*]; done)), H', ⟨Nat.le_refl _⟩, ⟨by first | exact Kd.R_nil _ _ _ _ _ | exact Kd.N_nil _ _ _ _ _ | exact Kd.V_nil _ _ _ _ _ | exact Kd.Q_nil _ _ _ _ _ | exact Kd.S_nil _ _ _ _ _⟩, ⟨by repeat (first | (with_reducible first | exact HB.out | apply below_alloc | apply pw_below_drewN | apply below_drew1) | exact HB.out)⟩⟩
 case round =>
  clear H'
  try clear p2
  obtain ⟨x5_1, x6_1, rfl, HA, HK1, HO_5, HB⟩ := hrel
  cases gk with
  | zero => exact absurd HA.out (by simp [cambistref12_zero.l0])
  | succ k1 =>
   have H := HA.out
   clear HA
   simp only [cambistref12_zero.l0] at H
   by_cases c3 : x6_1 < (l0.length : Int)
   ·rw [if_pos c3] at H
    have c3b0 : decide (x6_1 < (l0.length : Int)) = true := decide_eq_true c3
    clear c3
    by_cases c4 : 0 ≤ x6_1
    ·rw [if_pos c4] at H
     have c4b0 : decide (0 ≤ x6_1) = true := decide_eq_true c4
     clear c4
     by_cases c5 : ((rd_T42 l0 x6_1).f1).toList = a1.toList
     ·rw [if_pos c5] at H
      have c5b0 : (((rd_T42 l0 x6_1).f1).toList == a1.toList) = true := beq_iff_eq.mpr c5
      have c5b1 : (((rd_T42 l0 x6_1).f1).toList != a1.toList) = false := bne_eq_false_iff_eq.mpr c5
      clear c5
      by_cases c6 : x5_1.length < 17592186044416
      ·rw [if_pos c6] at H
       have LMc6 := Aside0.mk c6
       clear c6
       obtain ⟨y243, hy243⟩ : ∃ y_ : List Int, y_ = (x5_1 ++ [(rd_T42 l0 x6_1).f2]) := ⟨_, rfl⟩
       replace H : (cambistref12_zero.l0 k1 l0 a1 y243 (wrap64 (x6_1 + 1))) = some r := by first | (rw [hy243]; with_reducible exact H) | (have H2_ := (Option.bind_some _ _).symm.trans H; rw [hy243]; with_reducible exact H2_) | (have H2_ := (Option.bind_some _ _).symm.trans H; with_reducible exact H2_) | with_reducible exact H | (rw [hy243]; exact H) | exact H
       have Ny243 := Aside0.mk hy243
       clear hy243
       have H' := Aside0.mk H
       clear H
       have p241 : 0 ≤ (x6_1 : Int) := of_decide_eq_true (by first | (with_reducible assumption) | assumption)
       have q241 : x6_1 < (l0.length : Int) := of_decide_eq_true (by first | (with_reducible assumption) | assumption)
       obtain ⟨ad241, e241, hx241_0, hx241_1, hx241_2⟩ := at_T42 HR0.out x6_1 p241 q241
       cases e241
       replace hx241_0 := (HB.out.cell (World.block_lt_of_cell? w _ hx241_0)).trans hx241_0
       replace hx241_1 := (HB.out.cell (World.block_lt_of_cell? w _ hx241_1)).trans hx241_1
       replace hx241_2 := (HB.out.cell (World.block_lt_of_cell? w _ hx241_2)).trans hx241_2
       replace p241 := eq_true p241
       replace q241 := eq_true q241
       have p242 : 0 ≤ (x6_1 : Int) := of_decide_eq_true (by first | (with_reducible assumption) | assumption)
       have q242 : x6_1 < (l0.length : Int) := of_decide_eq_true (by first | (with_reducible assumption) | assumption)
       obtain ⟨ad242, e242, hx242_0, hx242_1, hx242_2⟩ := at_T42 HR0.out x6_1 p242 q242
       obtain rfl : ad241 = ad242 := (by injection e242)
       replace hx242_0 := (HB.out.cell (World.block_lt_of_cell? w _ hx242_0)).trans hx242_0
       replace hx242_1 := (HB.out.cell (World.block_lt_of_cell? w _ hx242_1)).trans hx242_1
       replace hx242_2 := (HB.out.cell (World.block_lt_of_cell? w _ hx242_2)).trans hx242_2
       replace p242 := eq_true p242
       replace q242 := eq_true q242
       go_wp2_with (first | ((with_reducible refine gate_builtin (b := .append) (xs := #[.tmp 22, .tmp 28]) rfl ?_); at_builtin; refine Kd.R_append (Kd.int .i64) (w0 := w) w.heap.size rfl (.tmp 22) (.tmp 28) 46 2 (.int .i64 0) 8 rfl Tryd.underlying46 info2 rfl (by decide) (by omega) u5 x5_1 ((rd_T42 l0 x6_1).f2) [.int .i64 ((rd_T42 l0 x6_1).f2)] (fun _ => True) (fun _ => False) rfl rfl ?aP (fun _ hk => hk.elim) ?aF ?aO ?aB ?aS ?aL ?_; (case aP => exact rfl); (case aB => exact (by repeat (first | (with_reducible first | exact HB.out | apply below_alloc | apply pw_below_drewN | apply below_drew1) | exact HB.out))); (case aF => exact (fun _ _ => trivial)); (case aO => exact (by (with_reducible repeat (first | apply Kd.R_alloc | apply Kd.R_drewN | apply Kd.R_drew)); exact HO_5.out)); (case aS => exact (below_size (by repeat (first | (with_reducible first | exact HB.out | apply below_alloc | apply pw_below_drewN | apply below_drew1) | exact HB.out)))); (case aL => have := LMc6.out; omega); intro v244 w7 ho hb hg hat; rw [← Ny243.out] at ho; have n0_ := Aside0.mk (hb); have n1_ := Aside0.mk (ho); clear HB; clear HO_5; have HB := n0_; have HO245 := n1_; clear n0_ n1_; clear ho hb hg hat))
       go_roundg k1
       case measure => have := HK1.out; omega
       case rel => exact ⟨(y243), (wrap64 (x6_1 + 1)), (by first | rfl | (simp; done) | (simp [*]; done)), H', ⟨by have := HK1.out; omega⟩, ⟨by (with_reducible repeat (first | apply Kd.R_alloc | apply Kd.R_drewN | apply Kd.R_drew)); exact HO245.out⟩, ⟨by repeat (first | (with_reducible first | exact HB.out | apply below_alloc | apply pw_below_drewN | apply below_drew1) | exact HB.out)⟩⟩
      ·rw [if_neg c6] at H
       exact absurd H (by simp)
     ·rw [if_neg c5] at H
      have c5b0 : (((rd_T42 l0 x6_1).f1).toList == a1.toList) = false := beq_eq_false_iff_ne.mpr c5
      have c5b1 : (((rd_T42 l0 x6_1).f1).toList != a1.toList) = true := bne_iff_ne.mpr c5
      have H' := Aside0.mk H
      clear H
      have p241 : 0 ≤ (x6_1 : Int) := of_decide_eq_true (by first | (with_reducible assumption) | assumption)
      have q241 : x6_1 < (l0.length : Int) := of_decide_eq_true (by first | (with_reducible assumption) | assumption)
      obtain ⟨ad241, e241, hx241_0, hx241_1, hx241_2⟩ := at_T42 HR0.out x6_1 p241 q241
      cases e241
      replace hx241_0 := (HB.out.cell (World.block_lt_of_cell? w _ hx241_0)).trans hx241_0
      replace hx241_1 := (HB.out.cell (World.block_lt_of_cell? w _ hx241_1)).trans hx241_1
      replace hx241_2 := (HB.out.cell (World.block_lt_of_cell? w _ hx241_2)).trans hx241_2
      replace p241 := eq_true p241
      replace q241 := eq_true q241
      go_wp2
      go_roundg k1
      case measure => have := HK1.out; omega
      case rel => exact ⟨(x5_1), (wrap64 (x6_1 + 1)), (by first | rfl | (simp; done) | (simp [*]; done)), H', ⟨by have := HK1.out; omega⟩, ⟨by (with_reducible repeat (first | apply Kd.R_alloc | apply Kd.R_drewN | apply Kd.R_drew)); exact HO_5.out⟩, ⟨by repeat (first | (with_reducible first | exact HB.out | apply below_alloc | apply pw_below_drewN | apply below_drew1) | exact HB.out)⟩⟩
    ·rw [if_neg c4] at H
     exact absurd H (by simp)
   ·rw [if_neg c3] at H
    have c3b0 : decide (x6_1 < (l0.length : Int)) = false := decide_eq_false c3
    clear c3
    replace H := Option.bind_eq_some_iff.mp H
    obtain ⟨⟨t246, t247⟩, A80, H⟩ := H
    replace H : (if t246 = 0 then (some (t247 == 0)) else (some false)) = some r := H
    have A8 := Aside0.mk A80
    clear A80
    by_cases c9 : t246 = 0
    ·rw [if_pos c9] at H
     have c9b0 : (t246 == 0) = true := beq_iff_eq.mpr c9
     have c9b1 : (t246 != 0) = false := bne_eq_false_iff_eq.mpr c9
     clear c9
     obtain rfl := Option.some.inj H
     obtain ⟨Ao10, co10, eo10⟩ := Kd.R_slice HO_5.out
     subst eo10
     go_wp2_with (first | ((with_reducible refine gate_callee (f := 44) rfl ?_); refine goesL_ (some 32) rfl rfl Tryd.func44 (by kernel_rfl) rfl #[.slice Ao10 x5_1.length co10] rfl (by (try simp only [List.map_toArray, List.map_cons, List.map_nil]); first | done | rfl | (simp only [List.length_drop, List.length_take]; rfl)) ?_; (with_reducible refine (cambistref01_Sum.calls k1 _ _ x5_1 t246 t247 _ ?side1 ?side2 ?side3 A8.out).mono ?_); (case side1 => exact Glob.below HG.out (by repeat (first | (with_reducible first | exact HB.out | apply below_alloc | apply pw_below_drewN | apply below_drew1) | exact HB.out))); (case side2 => repeat (first | exact (Kd.R_reads' HO_5.out).2.2 | (with_reducible refine Kd.C_alloc ?_ _) | (with_reducible refine Kd.C_drewN ?_ _) | (with_reducible refine Kd.C_drew ?_))); (case side3 => exact (Kd.R_reads' HO_5.out).2.1); rintro e w11 ⟨rfl, hb⟩; refine ⟨_, rfl, ?_⟩; have n0_ := Aside0.mk (Kd.R_below (by (with_reducible repeat (first | apply Kd.R_alloc | apply Kd.R_drewN | apply Kd.R_drew)); exact HO_5.out) hb); have n1_ := Aside0.mk (below_step (by repeat (first | (with_reducible first | exact HB.out | apply below_alloc | apply pw_below_drewN | apply below_drew1) | exact HB.out)) hb); clear HO_5; clear HB; have HO_5 := n0_; have HB := n1_; clear n0_ n1_; (try clear hb); (try clear hb2); (try clear hk); (try clear hi)))
     go_ret
     exact ⟨by first | rfl | (simp [errW_none, errW_some] <;> rfl) | (simp [*, errW_none, errW_some] <;> rfl), by repeat (first | (with_reducible first | exact HB.out | apply below_alloc | apply pw_below_drewN | apply below_drew1) | exact HB.out)⟩
    ·rw [if_neg c9] at H
     have c9b0 : (t246 == 0) = false := beq_eq_false_iff_ne.mpr c9
     have c9b1 : (t246 != 0) = true := bne_iff_ne.mpr c9
     obtain rfl := Option.some.inj H
     obtain ⟨Ao12, co12, eo12⟩ := Kd.R_slice HO_5.out
     subst eo12
     go_wp2_with (first | ((with_reducible refine gate_callee (f := 44) rfl ?_); refine goesL_ (some 32) rfl rfl Tryd.func44 (by kernel_rfl) rfl #[.slice Ao12 x5_1.length co12] rfl (by (try simp only [List.map_toArray, List.map_cons, List.map_nil]); first | done | rfl | (simp only [List.length_drop, List.length_take]; rfl)) ?_; (with_reducible refine (cambistref01_Sum.calls k1 _ _ x5_1 t246 t247 _ ?side1 ?side2 ?side3 A8.out).mono ?_); (case side1 => exact Glob.below HG.out (by repeat (first | (with_reducible first | exact HB.out | apply below_alloc | apply pw_below_drewN | apply below_drew1) | exact HB.out))); (case side2 => repeat (first | exact (Kd.R_reads' HO_5.out).2.2 | (with_reducible refine Kd.C_alloc ?_ _) | (with_reducible refine Kd.C_drewN ?_ _) | (with_reducible refine Kd.C_drew ?_))); (case side3 => exact (Kd.R_reads' HO_5.out).2.1); rintro e w13 ⟨rfl, hb⟩; refine ⟨_, rfl, ?_⟩; have n0_ := Aside0.mk (Kd.R_below (by (with_reducible repeat (first | apply Kd.R_alloc | apply Kd.R_drewN | apply Kd.R_drew)); exact HO_5.out) hb); have n1_ := Aside0.mk (below_step (by repeat (first | (with_reducible first | exact HB.out | apply below_alloc | apply pw_below_drewN | apply below_drew1) | exact HB.out)) hb); clear HO_5; clear HB; have HO_5 := n0_; have HB := n1_; clear n0_ n1_; (try clear hb); (try clear hb2); (try clear hk); (try clear hi)))
     go_ret
     exact ⟨by first | rfl | (simp [errW_none, errW_some] <;> rfl) | (simp [*, errW_none, errW_some] <;> rfl), by repeat (first | (with_reducible first | exact HB.out | apply below_alloc | apply pw_below_drewN | apply below_drew1) | exact HB.out)⟩

end Go.Proofs.YtjlifcbddednaaaDoor.P
