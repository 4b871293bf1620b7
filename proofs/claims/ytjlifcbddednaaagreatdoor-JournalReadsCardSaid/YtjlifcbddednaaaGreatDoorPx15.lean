-- Laid by wip/tools/cprint.py of this claim's own repo (over the kit's print).
import Derived.Test.YtjlifcbddednaaaGreatDoorSq
import Derived.Test.YtjlifcbddednaaaGreatDoorPx0
import Derived.Test.YtjlifcbddednaaaGreatDoorPx5
import Derived.Test.YtjlifcbddednaaaGreatDoorDigits
import Derived.Test.YtjlifcbddednaaaGreatDoorJCheck
import Derived.Test.YtjlifcbddednaaaGreatDoorText
namespace Go.Proofs.YtjlifcbddednaaaGreatDoor.P
open Go.RowKit Go.Proofs.YtjlifcbddednaaaGreatDoor.E Go.Proofs.YtjlifcbddednaaaGreatDoorW.PrintWords Go.Proofs.YtjlifcbddednaaaGreatDoorW.PrintLast
set_option linter.unusedVariables false
set_option linter.unusedSimpArgs false

/-! ### journal_Pairs: function 10 -/
def journal_Pairs.l0 : Nat → List (S26) → List (S36) → Int → Int → Int → Int → ByteArray → List (S36) → Option ((List (S26)) × Int)
 | 0, _, _, _, _, _, _, _, _ => none
 | k + 1, x5, x28, x29, x30, x180000, x180001, x180002, x180003 => if x30 < x29 then (if 0 ≤ x30 then (if x30 < (x28.length : Int) then ((label_Digits.f (IntKind.u64.wrap (x30))).bind fun t193 => (if 12 ≤ (t193.size : Int) then (if 1 + (t193.extract 12 t193.size).size ≤ 9223372036854775807 then ((coin_Text.f ((rd_T36 x28 x30).f2)).bind fun t194 => ((journal_pair.f k x180000 ((⟨#[49]⟩ : ByteArray) ++ (t193.extract 12 t193.size)) (([(rd_T36 x28 x30).f0, (rd_T36 x28 x30).f1, t194] : List ByteArray))).bind fun bt198 => (if x5.length < 4398046511104 then (journal_Pairs.l0 k (x5 ++ [(⟨bt198.1, bt198.2⟩ : S26)]) x28 x29 (wrap64 (x30 + 1)) x180000 x180001 x180002 x180003) else (none)))) else (none)) else (none))) else (none)) else (none)) else (some (x5, 0))
def journal_Pairs.f (k : Nat) (a0_0 : Int) (a0_1 : Int) (a0_2 : ByteArray) (l0_3 : List (S36)) : Option ((List (S26)) × Int) := (journal_Check.f a0_0 a0_1 a0_2 l0_3).bind fun t180 => (if t180 = 0 then ((label_Digits.f a0_1).bind fun t181 => ((coin_Text.f (l0_3.length : Int)).bind fun t182 => ((journal_pair.f k a0_0 (⟨#[48]⟩ : ByteArray) (([t181, a0_2, t182] : List ByteArray))).bind fun bt186 => (journal_Pairs.l0 k (([(⟨bt186.1, bt186.2⟩ : S26)] : List (S26))) l0_3 (l0_3.length : Int) 0 a0_0 a0_1 a0_2 l0_3)))) else (some (([] : List (S26)), t180)))
theorem journal_Pairs.mono_l : ∀ k, (∀ y0 y1 y2 y3 y4 y5 y6 y7, LeO (journal_Pairs.l0 k y0 y1 y2 y3 y4 y5 y6 y7) (journal_Pairs.l0 (k + 1) y0 y1 y2 y3 y4 y5 y6 y7))
 | 0 => fun _ _ _ _ _ _ _ _ r h => by simp [journal_Pairs.l0] at h
 | k + 1 => by
  have ih0 := journal_Pairs.mono_l k
  ·intro y0 y1 y2 y3 y4 y5 y6 y7
   unfold journal_Pairs.l0
   repeat' first
   | (with_reducible exact ih0 _ _ _ _ _ _ _ _)
   | (with_reducible exact journal_pair.mono _ _ _ _)
   | (with_reducible first | exact LeO.refl _ | exact LeO.none _ | refine LeO.ite ?_ ?_ | refine LeO.bind ?_ fun _ => ?_)
   | exact ih0 _ _ _ _ _ _ _ _
   | exact journal_pair.mono _ _ _ _
theorem journal_Pairs.mono : ∀ a0 a1 a2 a3 k, LeO (journal_Pairs.f k a0 a1 a2 a3) (journal_Pairs.f (k + 1) a0 a1 a2 a3) := by
 intro a0 a1 a2 a3 k
 have ih0 := journal_Pairs.mono_l k
 unfold journal_Pairs.f
 repeat' first
   | (with_reducible exact ih0 _ _ _ _ _ _ _ _)
   | (with_reducible exact journal_pair.mono _ _ _ _)
   | (with_reducible first | exact LeO.refl _ | exact LeO.none _ | refine LeO.ite ?_ ?_ | refine LeO.bind ?_ fun _ => ?_)
   | exact ih0 _ _ _ _ _ _ _ _
   | exact journal_pair.mono _ _ _ _
def journal_Pairs.T4 : Bool × List (List Nat × List Nat) := (true, [([], []), ([0], [0]), ([], []), ([2], [2]), ([3], [3]), ([], []), ([5], [5]), ([], []), ([7], [7]), ([8], [8]), ([9, 4], [9]), ([4, 6, 10], [4, 6, 10]), ([1, 11, 10], [1, 11]), ([12], [12]), ([13, 12, 0, 1, 2, 3, 4, 5, 6, 7, 8, 9, 10, 11, 12, 13], [13])])
def journal_Pairs.B4 : List Nat := [0, 1, 0, 4, 12, 0, 32, 0, 128, 384, 924, 2044, 4095, 8191, 16383]
theorem journal_Pairs.tab4 : rtab .any (opsOf Tryz.f10 4) = journal_Pairs.T4 := by kernel_rfl
theorem journal_Pairs.bits4 : waitsOk journal_Pairs.T4.2 journal_Pairs.B4 = true := by kernel_rfl
def journal_Pairs.T8 : Bool × List (List Nat × List Nat) := (true, [([], []), ([], []), ([1], [1]), ([], []), ([3], [3]), ([4], [4]), ([5], [5]), ([6], [6]), ([], []), ([8], [8]), ([], []), ([10], [10]), ([], []), ([12], [12]), ([13, 5], [13]), ([9, 11, 14], [9, 11, 14]), ([2, 7, 15, 14], [2, 7, 15]), ([16], [16]), ([0, 17, 16], [0, 17]), ([18, 18, 0, 1, 2, 3, 4, 5, 6, 7, 8, 9, 10, 11, 12, 13, 14, 15, 16, 17, 18], [0, 18])])
def journal_Pairs.B8 : List Nat := [0, 0, 2, 0, 8, 24, 56, 120, 0, 256, 0, 1024, 0, 4096, 12344, 32568, 65534, 131070, 262143, 524287]
theorem journal_Pairs.tab8 : rtab .any (opsOf Tryz.f10 8) = journal_Pairs.T8 := by kernel_rfl
theorem journal_Pairs.bits8 : waitsOk journal_Pairs.T8.2 journal_Pairs.B8 = true := by kernel_rfl
set_option maxHeartbeats 8000000 in
set_option maxRecDepth 100000 in
theorem journal_Pairs.calls (k : Nat) (a0_0 : Int) (a0_1 : Int) (a0_2 : ByteArray) (A0_3 : Option Addr) (c0_3 : Nat) (l0_3 : List (S36)) (r1 : List (S26)) (r2 : Int) (w : World) (hG : Glob w) (hr0_3 : Kd.C k36 w A0_3 l0_3.length l0_3) (hc0_3 : l0_3.length ≤ c0_3) (h : journal_Pairs.f k a0_0 a0_1 a0_2 l0_3 = some (r1, r2)) :
  Calls Tryz.prog 10 #[.agg #[.int .u64 a0_0, .int .u64 a0_1, .string a0_2, .slice A0_3 l0_3.length c0_3]] w fun e w' => ∃ v0_ : Value, e = .returned (.tuple #[v0_, .int .i64 r2]) ∧ Kd.R k26 26 w' w.heap.size (fun _ => True) v0_ r1 ∧ Below w.heap.size w w' := by
 have hu39 := Tryz.underlying39
 have hu36 := Tryz.underlying36
 have HG := a_ hG
 clear hG
 have HR0_3 := a_ hr0_3
 have HC0_3 := a_ hc0_3
 clear hr0_3 hc0_3
 have HB := a_ (Below.refl w.heap.size w)
 have H : ((journal_Check.f a0_0 a0_1 a0_2 l0_3).bind fun t180 => (if t180 = 0 then ((label_Digits.f a0_1).bind fun t181 => ((coin_Text.f (l0_3.length : Int)).bind fun t182 => ((journal_pair.f k a0_0 (⟨#[48]⟩ : ByteArray) (([t181, a0_2, t182] : List ByteArray))).bind fun bt186 => (journal_Pairs.l0 k (([(⟨bt186.1, bt186.2⟩ : S26)] : List (S26))) l0_3 (l0_3.length : Int) 0 a0_0 a0_1 a0_2 l0_3)))) else (some (([] : List (S26)), t180)))) = some (r1, r2) := h
 clear h
 replace H := Option.bind_eq_some_iff.mp H
 obtain ⟨t180, A20, H⟩ := H
 replace H : (if t180 = 0 then ((label_Digits.f a0_1).bind fun t181 => ((coin_Text.f (l0_3.length : Int)).bind fun t182 => ((journal_pair.f k a0_0 (⟨#[48]⟩ : ByteArray) (([t181, a0_2, t182] : List ByteArray))).bind fun bt186 => (journal_Pairs.l0 k (([(⟨bt186.1, bt186.2⟩ : S26)] : List (S26))) l0_3 (l0_3.length : Int) 0 a0_0 a0_1 a0_2 l0_3)))) else (some (([] : List (S26)), t180))) = some (r1, r2) := H
 have A2 := a_ A20
 clear A20
 by_cases c3 : t180 = 0
 ·rw [if_pos c3] at H
  have c3b0 : (t180 == 0) = true := beq_iff_eq.mpr c3
  have c3b1 : (t180 != 0) = false := bne_eq_false_iff_eq.mpr c3
  clear c3
  replace H := Option.bind_eq_some_iff.mp H
  obtain ⟨t181, A40, H⟩ := H
  replace H : ((coin_Text.f (l0_3.length : Int)).bind fun t182 => ((journal_pair.f k a0_0 (⟨#[48]⟩ : ByteArray) (([t181, a0_2, t182] : List ByteArray))).bind fun bt186 => (journal_Pairs.l0 k (([(⟨bt186.1, bt186.2⟩ : S26)] : List (S26))) l0_3 (l0_3.length : Int) 0 a0_0 a0_1 a0_2 l0_3))) = some (r1, r2) := H
  have A4 := a_ A40
  clear A40
  replace H := Option.bind_eq_some_iff.mp H
  obtain ⟨t182, A50, H⟩ := H
  replace H : ((journal_pair.f k a0_0 (⟨#[48]⟩ : ByteArray) (([t181, a0_2, t182] : List ByteArray))).bind fun bt186 => (journal_Pairs.l0 k (([(⟨bt186.1, bt186.2⟩ : S26)] : List (S26))) l0_3 (l0_3.length : Int) 0 a0_0 a0_1 a0_2 l0_3)) = some (r1, r2) := H
  have A5 := a_ A50
  clear A50
  obtain ⟨y183, hy183⟩ : ∃ y_ : List ByteArray, y_ = (([t181, a0_2, t182] : List ByteArray)) := ⟨_, rfl⟩
  replace H : ((journal_pair.f k a0_0 (⟨#[48]⟩ : ByteArray) y183).bind fun bt186 => (journal_Pairs.l0 k (([(⟨bt186.1, bt186.2⟩ : S26)] : List (S26))) l0_3 (l0_3.length : Int) 0 a0_0 a0_1 a0_2 l0_3)) = some (r1, r2) := by first | (rw [hy183]; with_reducible exact H) | (have H2_ := (Option.bind_some _ _).symm.trans H; rw [hy183]; with_reducible exact H2_) | (have H2_ := (Option.bind_some _ _).symm.trans H; with_reducible exact H2_) | with_reducible exact H | (rw [hy183]; exact H) | exact H
  have Ny183 := a_ hy183
  clear hy183
  replace H := Option.bind_eq_some_iff.mp H
  obtain ⟨⟨t186, t187⟩, A60, H⟩ := H
  replace H : (journal_Pairs.l0 k (([(⟨t186, t187⟩ : S26)] : List (S26))) l0_3 (l0_3.length : Int) 0 a0_0 a0_1 a0_2 l0_3) = some (r1, r2) := H
  have A6 := a_ A60
  clear A60
  obtain ⟨y188, hy188⟩ : ∃ y_ : List (S26), y_ = (([(⟨t186, t187⟩ : S26)] : List (S26))) := ⟨_, rfl⟩
  replace H : (journal_Pairs.l0 k y188 l0_3 (l0_3.length : Int) 0 a0_0 a0_1 a0_2 l0_3) = some (r1, r2) := by first | (rw [hy188]; with_reducible exact H) | (have H2_ := (Option.bind_some _ _).symm.trans H; rw [hy188]; with_reducible exact H2_) | (have H2_ := (Option.bind_some _ _).symm.trans H; with_reducible exact H2_) | with_reducible exact H | (rw [hy188]; exact H) | exact H
  have Ny188 := a_ hy188
  clear hy188
  have H' := a_ H
  clear H
  go_enter Tryz.func10, Tryz.ntmps10
  try go_wp2_with (first | ((with_reducible refine gate_dst (N := 1) rfl ?_); refine box_event ?hg (N := 1) ?hd (cs := #[.int .u64 a0_0, .int .u64 a0_1, .string a0_2, .slice A0_3 l0_3.length c0_3]) (t := 39) ?hr ?_; (case hd => rfl); (case hg => rfl); (case hr => first | (go_simp; done) | (go_simp; rfl)); intro gb179 hg w7 hbox hb; have n0_ := a_ (below_step z33_ hb); have n1_ := a_ (hbox); have n2_ := a_ ((z20_ : w.heap.size ≤ gb179)); have n3_ := a_ ((z20_ : w.heap.size ≤ gb179)); clear HB; have HB := n0_; have BK179 := n1_; have GW179 := n2_; have GE179 := n3_; clear n0_ n1_ n2_ n3_; clear hb hbox hg; have hcz8_0 : w7.cell? ⟨gb179, 0, none⟩ = some (.int .u64 a0_0) := (blk_cell BK179.out 0).trans rfl; have hcz8_1 : w7.cell? ⟨gb179, 1, none⟩ = some (.int .u64 a0_1) := (blk_cell BK179.out 1).trans rfl; have hcz8_2 : w7.cell? ⟨gb179, 2, none⟩ = some (.string a0_2) := (blk_cell BK179.out 2).trans rfl; have hcz8_3 : w7.cell? ⟨gb179, 3, none⟩ = some (.slice A0_3 l0_3.length c0_3) := (blk_cell BK179.out 3).trans rfl; have hfz8_0 := blk_frozen BK179.out 0; have hfz8_1 := blk_frozen BK179.out 1; have hfz8_2 := blk_frozen BK179.out 2; have hfz8_3 := blk_frozen BK179.out 3) | ((with_reducible refine gate_callee (f := 11) rfl ?_); refine goesL_ (some 9) rfl rfl Tryz.func11 z74_ rfl #[.agg #[.int .u64 a0_0, .int .u64 a0_1, .string a0_2, .slice A0_3 l0_3.length c0_3]] rfl z19_ ?_; (with_reducible refine (journal_Check.calls a0_0 a0_1 a0_2 _ _ l0_3 t180 _ ?side1 ?side2 ?side3 A2.out).mono ?_); (case side1 => exact Glob.below HG.out z30_); (case side2 => repeat (first | exact (Kd.C_below HR0_3.out HB.out) | (with_reducible refine Kd.C_alloc ?_ _) | (with_reducible refine Kd.C_drewN ?_ _) | (with_reducible refine Kd.C_drew ?_))); (case side3 => exact HC0_3.out); rintro e w9 ⟨rfl, hb⟩; refine ⟨_, rfl, ?_⟩; have n0_ := a_ (blk_below (g := gb179) (o := .cells #[.int .u64 a0_0, .int .u64 a0_1, .string a0_2, .slice A0_3 l0_3.length c0_3] 39 (0, 0)) z62_ hb); have n1_ := a_ (below_step z30_ hb); clear BK179; clear HB; have BK179 := n0_; have HB := n1_; clear n0_ n1_; (try clear hb); (try clear hb2); (try clear hk); (try clear hi)))
  have n0_ := a_ (blk_drew BK179.out)
  have n1_ := a_ (below_drew1 HB.out)
  clear BK179
  clear HB
  have BK179 := n0_
  have HB := n1_
  clear n0_ n1_
  refine start_ (n := 15) (S := fun w' => w'.cell? ⟨gb179, 0, none⟩ = some (.int .u64 a0_0) ∧ w'.cell? ⟨gb179, 1, none⟩ = some (.int .u64 a0_1) ∧ w'.cell? ⟨gb179, 2, none⟩ = some (.string a0_2) ∧ w'.cell? ⟨gb179, 3, none⟩ = some (.slice A0_3 l0_3.length c0_3)) (ds := []) #[false, false, false, false, false, false, false, false, false, false, false, false, false, false, false] z74_ rfl rfl ⟨(blk_cell BK179.out 0).trans rfl, (blk_cell BK179.out 1).trans rfl, (blk_cell BK179.out 2).trans rfl, (blk_cell BK179.out 3).trans rfl⟩ (fun hHeld => ?_); refine with_tabW journal_Pairs.tab4 journal_Pairs.bits4 (fun HT_ HW_ => ?_)
  generalize w9.drew = w10 at BK179 HB hHeld ⊢
  refine pure_ (i := 0) (N := some 13) (v := ?_) (a' := ?_) (fl_ 15 1) rfl rfl (any_of HT_.out z74_) (fun _ _ _ h => h) (Or.inl ⟨by rfl, ?_⟩) ?_ ?_
  rotate_left
  ·intro w'
   go_simp
   with_reducible rfl
  rotate_left
  ·simp only [Act.put, sT_, s0_, sS_, i64_w, i32_w]
   rfl
  refine pure_ (i := 2) (N := some 15) (v := ?_) (a' := ?_) (fl_ 15 5) rfl rfl (any_of HT_.out z74_) (fun _ _ _ h => h) (Or.inl ⟨by rfl, ?_⟩) ?_ ?_
  rotate_left
  ·intro w'
   go_simp
   with_reducible rfl
  rotate_left
  ·simp only [Act.put, sT_, s0_, sS_, i64_w, i32_w]
   rfl
  refine pure_ (i := 5) (N := some 18) (v := ?_) (a' := ?_) (fl_ 15 37) rfl rfl (any_of HT_.out z74_) (fun _ _ _ h => h) (Or.inl ⟨by rfl, ?_⟩) ?_ ?_
  rotate_left
  ·intro w'
   go_simp
   with_reducible rfl
  rotate_left
  ·simp only [Act.put, sT_, s0_, sS_, i64_w, i32_w]
   rfl
  refine pure_ (i := 7) (N := some 20) (v := ?_) (a' := ?_) (fl_ 15 165) rfl rfl (any_of HT_.out z74_) (fun _ _ _ h => h) (Or.inl ⟨by rfl, ?_⟩) ?_ ?_
  rotate_left
  ·intro w'
   go_simp
   with_reducible rfl
  rotate_left
  ·simp only [Act.put, sT_, s0_, sS_, i64_w, i32_w]
   rfl
  refine take_ (i := 1) (N := some 14) (v := ?_) (a' := ?_) (fl_ 15 167) rfl rfl (take_ofW HT_.out HW_.out z74_) (fun _ _ _ h => h) (Or.inl ⟨by rfl, ?_⟩) hHeld ?_ ?_
  rotate_left
  ·rintro w' ⟨s0, s1, s2, s3⟩
   go_simp
   with_reducible rfl
  rotate_left
  ·simp only [Act.put, sT_, s0_, sS_, i64_w, i32_w]
   rfl
  refine take_ (i := 3) (N := some 16) (v := ?_) (a' := ?_) (fl_ 15 175) rfl rfl (take_ofW HT_.out HW_.out z74_) (fun _ _ _ h => h) (Or.inl ⟨by rfl, ?_⟩) hHeld ?_ ?_
  rotate_left
  ·rintro w' ⟨s0, s1, s2, s3⟩
   go_simp
   with_reducible rfl
  rotate_left
  ·simp only [Act.put, sT_, s0_, sS_, i64_w, i32_w]
   rfl
  refine take_ (i := 6) (N := some 19) (v := ?_) (a' := ?_) (fl_ 15 239) rfl rfl (take_ofW HT_.out HW_.out z74_) (fun _ _ _ h => h) (Or.inl ⟨by rfl, ?_⟩) hHeld ?_ ?_
  rotate_left
  ·rintro w' ⟨s0, s1, s2, s3⟩
   go_simp
   with_reducible rfl
  rotate_left
  ·simp only [Act.put, sT_, s0_, sS_, i64_w, i32_w]
   rfl
  refine take_ (i := 8) (N := some 21) (v := ?_) (a' := ?_) (fl_ 15 495) rfl rfl (take_ofW HT_.out HW_.out z74_) (fun _ _ _ h => h) (Or.inl ⟨by rfl, ?_⟩) hHeld ?_ ?_
  rotate_left
  ·rintro w' ⟨s0, s1, s2, s3⟩
   go_simp
   with_reducible rfl
  rotate_left
  ·simp only [Act.put, sT_, s0_, sS_, i64_w, i32_w]
   rfl
  refine pure_ (i := 9) (N := some 22) (v := ?_) (a' := ?_) (fl_ 15 1007) rfl rfl (any_of HT_.out z74_) (fun _ _ _ h => h) (Or.inl ⟨by rfl, ?_⟩) ?_ ?_
  rotate_left
  ·intro w'
   go_simp
   with_reducible rfl
  rotate_left
  ·simp only [Act.put, sT_, s0_, sS_, i64_w, i32_w]
   rfl
  refine one_ (i := 4) (N := some 17) (fl_ 15 1023) rfl rfl (one_of HT_.out z74_) (by decide) (fun K hK => ?_)
  refine goes_ Tryz.func22 z74_ rfl #[.int .u64 a0_1] (by rfl) rfl rfl z19_ ?_
  with_reducible refine (label_Digits.calls a0_1 t181 _ ?side1 A4.out).mono ?_
  (case side1 => exact Glob.below HG.out z30_)
  rintro e w11 ⟨rfl, hb⟩
  refine ⟨_, rfl, ?_⟩
  have n0_ := a_ (blk_below (g := gb179) (o := .cells #[.int .u64 a0_0, .int .u64 a0_1, .string a0_2, .slice A0_3 l0_3.length c0_3] 39 (0, 0)) z62_ hb)
  have n1_ := a_ (below_step z30_ hb)
  clear BK179
  clear HB
  have BK179 := n0_
  have HB := n1_
  clear n0_ n1_
  (try clear hb)
  (try clear hb2)
  (try clear hk)
  (try clear hi)
  refine hK.out _ _ ⟨(blk_cell BK179.out 0).trans rfl, (blk_cell BK179.out 1).trans rfl, (blk_cell BK179.out 2).trans rfl, (blk_cell BK179.out 3).trans rfl⟩ (fun hHeld => ?_)
  clear hK K
  refine norm_ (a' := ?_) ?_ ?_
  rotate_left
  ·show Act.put _ (some 17) _ = _
   simp only [Act.put, sT_, s0_, sS_, i64_w, i32_w]
   rfl
  refine one_ (i := 10) (N := some 23) (fl_ 15 2047) rfl rfl (one_of HT_.out z74_) (by decide) (fun K hK => ?_)
  refine goes_ Tryz.func23 z74_ rfl #[.int .i64 (l0_3.length : Int)] (by rfl) rfl rfl z19_ ?_
  with_reducible refine (coin_Text.calls (l0_3.length : Int) t182 _ ?side1 A5.out).mono ?_
  (case side1 => exact Glob.below HG.out z30_)
  rintro e w12 ⟨rfl, hb⟩
  refine ⟨_, rfl, ?_⟩
  have n0_ := a_ (blk_below (g := gb179) (o := .cells #[.int .u64 a0_0, .int .u64 a0_1, .string a0_2, .slice A0_3 l0_3.length c0_3] 39 (0, 0)) z62_ hb)
  have n1_ := a_ (below_step z30_ hb)
  clear BK179
  clear HB
  have BK179 := n0_
  have HB := n1_
  clear n0_ n1_
  (try clear hb)
  (try clear hb2)
  (try clear hk)
  (try clear hi)
  refine hK.out _ _ ⟨(blk_cell BK179.out 0).trans rfl, (blk_cell BK179.out 1).trans rfl, (blk_cell BK179.out 2).trans rfl, (blk_cell BK179.out 3).trans rfl⟩ (fun hHeld => ?_)
  clear hK K
  refine norm_ (a' := ?_) ?_ ?_
  rotate_left
  ·show Act.put _ (some 23) _ = _
   simp only [Act.put, sT_, s0_, sS_, i64_w, i32_w]
   rfl
  refine one_ (i := 11) (N := some 24) (fl_ 15 4095) rfl rfl (one_of HT_.out z74_) (by decide) (fun K hK => ?_)
  refine Kd.R_lit_step Kd.string _ 9 ?hg (N := 24) ?hd (xs := ([t181, a0_2, t182] : List ByteArray)) (inner := [.string t181, .string a0_2, .string t182]) (ok := fun _ => True) (okp := fun _ => True) ?hr ?hp (fun _ hk => hk) trivial (Below.refl _ _) (Nat.le_refl _) (by simp) ?_; (case hd => rfl); (case hg => rfl); (case hr => first | (go_simp; done) | (go_simp; rfl)); (case hp => exact (Reps.one (show Kd.M Kd.string _ _ _ t181 [.string t181] from rfl) (Reps.one (show Kd.M Kd.string _ _ _ a0_2 [.string a0_2] from rfl) (Reps.one (show Kd.M Kd.string _ _ _ t182 [.string t182] from rfl) (Reps.none _ _)))))
  intro v184 w13 ho14 hb hg_ hnew_
  clear hg_ hnew_
  (first | rw [← Ny183.out] at ho14 | (simp only [Int.reduceToNat] at ho14; rw [← Ny183.out] at ho14))
  have n0_ := a_ (Kd.R_lower ho14 (below_size z30_))
  have n1_ := a_ (blk_below (g := gb179) (o := .cells #[.int .u64 a0_0, .int .u64 a0_1, .string a0_2, .slice A0_3 l0_3.length c0_3] 39 (0, 0)) z62_ hb)
  have n2_ := a_ (below_step z30_ hb)
  clear BK179
  clear HB
  have HO185 := n0_
  have BK179 := n1_
  have HB := n2_
  clear n0_ n1_ n2_
  clear hb ho14
  obtain ⟨Ao15, co15, eo15⟩ := Kd.R_slice HO185.out
  (first | subst eo15 | (injection eo15 with f1_ f2_ f3_; have f4_ := f1_.symm; have f5_ := f3_.symm; clear f1_ f2_ f3_; subst f4_; subst f5_))
  refine hK.out _ _ ⟨(blk_cell BK179.out 0).trans rfl, (blk_cell BK179.out 1).trans rfl, (blk_cell BK179.out 2).trans rfl, (blk_cell BK179.out 3).trans rfl⟩ (fun hHeld => ?_)
  clear hK K
  refine norm_ (a' := ?_) ?_ ?_
  rotate_left
  ·show Act.put _ (some 24) _ = _
   simp only [Act.put, sT_, s0_, sS_, i64_w, i32_w]
   rfl
  refine one_ (i := 12) (N := some 25) (fl_ 15 8191) rfl rfl (one_of HT_.out z74_) (by decide) (fun K hK => ?_)
  refine goes_ Tryz.func21 z74_ rfl #[.int .u64 a0_0, .string (⟨#[48]⟩ : ByteArray), .slice Ao15 y183.length co15] (by rfl) rfl rfl z19_ ?_
  with_reducible refine (journal_pair.calls k a0_0 (⟨#[48]⟩ : ByteArray) _ _ y183 t186 t187 _ ?side1 ?side2 ?side3 A6.out).mono ?_
  (case side1 => exact Glob.below HG.out z30_)
  (case side2 => repeat (first | exact (Kd.R_reads' HO185.out).2.2 | (with_reducible refine Kd.C_alloc ?_ _) | (with_reducible refine Kd.C_drewN ?_ _) | (with_reducible refine Kd.C_drew ?_)))
  (case side3 => exact (Kd.R_reads' HO185.out).2.1)
  rintro e w16 ⟨rfl, hb⟩
  refine ⟨_, rfl, ?_⟩
  have n0_ := a_ (Kd.R_below (by (with_reducible repeat (first | apply Kd.R_alloc | apply Kd.R_drewN | apply Kd.R_drew)); exact HO185.out) hb)
  have n1_ := a_ (blk_below (g := gb179) (o := .cells #[.int .u64 a0_0, .int .u64 a0_1, .string a0_2, .slice A0_3 l0_3.length c0_3] 39 (0, 0)) z62_ hb)
  have n2_ := a_ (below_step z30_ hb)
  clear HO185
  clear BK179
  clear HB
  have HO185 := n0_
  have BK179 := n1_
  have HB := n2_
  clear n0_ n1_ n2_
  (try clear hb)
  (try clear hb2)
  (try clear hk)
  (try clear hi)
  refine hK.out _ _ ⟨(blk_cell BK179.out 0).trans rfl, (blk_cell BK179.out 1).trans rfl, (blk_cell BK179.out 2).trans rfl, (blk_cell BK179.out 3).trans rfl⟩ (fun hHeld => ?_)
  clear hK K
  refine norm_ (a' := ?_) ?_ ?_
  rotate_left
  ·show Act.put _ (some 25) _ = _
   simp only [Act.put, sT_, s0_, sS_, i64_w, i32_w]
   rfl
  refine one_ (i := 13) (N := some 26) (fl_ 15 16383) rfl rfl (one_of HT_.out z74_) (by decide) (fun K hK => ?_)
  refine Kd.R_lit_step k26 _ 26 ?hg (N := 26) ?hd (xs := ([(⟨t186, t187⟩ : S26)] : List (S26))) (inner := [.string t186, .string t187]) (ok := fun _ => True) (okp := fun _ => True) ?hr ?hp (fun _ hk => hk) trivial (Below.refl _ _) (Nat.le_refl _) (by simp) ?_; (case hd => rfl); (case hg => rfl); (case hr => first | (go_simp; done) | (go_simp; rfl)); (case hp => exact (Reps.c2 (show Kd.M k26 _ _ _ (⟨t186, t187⟩ : S26) [.string t186, .string t187] from (k26_mkM _ _ _ (⟨t186, t187⟩ : S26) )) (Reps.none _ _)))
  intro v189 w17 ho18 hb hg_ hnew_
  clear hg_ hnew_
  (first | rw [← Ny188.out] at ho18 | (simp only [Int.reduceToNat] at ho18; rw [← Ny188.out] at ho18))
  have n0_ := a_ (Kd.R_below (by (with_reducible repeat (first | apply Kd.R_alloc | apply Kd.R_drewN | apply Kd.R_drew)); exact HO185.out) hb)
  have n1_ := a_ (Kd.R_lower ho18 (below_size z30_))
  have n2_ := a_ (blk_below (g := gb179) (o := .cells #[.int .u64 a0_0, .int .u64 a0_1, .string a0_2, .slice A0_3 l0_3.length c0_3] 39 (0, 0)) z62_ hb)
  have n3_ := a_ (below_step z30_ hb)
  clear HO185
  clear BK179
  clear HB
  have HO185 := n0_
  have HO190 := n1_
  have BK179 := n2_
  have HB := n3_
  clear n0_ n1_ n2_ n3_
  clear hb ho18
  refine hK.out _ _ ⟨(blk_cell BK179.out 0).trans rfl, (blk_cell BK179.out 1).trans rfl, (blk_cell BK179.out 2).trans rfl, (blk_cell BK179.out 3).trans rfl⟩ (fun hHeld => ?_)
  clear hK K
  refine norm_ (a' := ?_) ?_ ?_
  rotate_left
  ·show Act.put _ (some 26) _ = _
   simp only [Act.put, sT_, s0_, sS_, i64_w, i32_w]
   rfl
  refine pure_ (i := 14) (N := some 5) (v := ?_) (a' := ?_) (fl_ 15 32767) rfl rfl (any_of HT_.out z74_) (fun _ _ _ h => h) (Or.inl ⟨by rfl, ?_⟩) ?_ ?_
  rotate_left
  ·intro w'
   go_simp
   with_reducible rfl
  rotate_left
  ·simp only [Act.put, sT_, s0_, sS_, i64_w, i32_w]
   rfl
  refine done_ (done_of HT_.out z74_) ?_
  have hcz19_0 : w17.cell? ⟨gb179, 0, none⟩ = some (.int .u64 a0_0) := (blk_cell BK179.out 0).trans rfl
  have hcz19_1 : w17.cell? ⟨gb179, 1, none⟩ = some (.int .u64 a0_1) := (blk_cell BK179.out 1).trans rfl
  have hcz19_2 : w17.cell? ⟨gb179, 2, none⟩ = some (.string a0_2) := (blk_cell BK179.out 2).trans rfl
  have hcz19_3 : w17.cell? ⟨gb179, 3, none⟩ = some (.slice A0_3 l0_3.length c0_3) := (blk_cell BK179.out 3).trans rfl
  have hfz19_0 := blk_frozen BK179.out 0
  have hfz19_1 := blk_frozen BK179.out 1
  have hfz19_2 := blk_frozen BK179.out 2
  have hfz19_3 := blk_frozen BK179.out 3
  try go_wp2
  go_loopg [5, 30] k (fun kq v5 v30 w' => ∃ (x5_1 : List (S26)) (x30_1 : Int), v30 = .int .i64 x30_1 ∧ Aside0 (journal_Pairs.l0 kq x5_1 l0_3 (l0_3.length : Int) x30_1 a0_0 a0_1 a0_2 l0_3 = some (r1, r2)) ∧ Aside0 (kq ≤ k) ∧ Aside0 (Kd.R k26 26 w' w.heap.size (fun _ => True) v5 x5_1) ∧ Aside0 (w'.heap[gb179]? = some (.cells #[.int .u64 a0_0, .int .u64 a0_1, .string a0_2, (.slice A0_3 l0_3.length c0_3)] 39 (0, 0))) ∧ Aside0 (Below w.heap.size w w'))
  case atStart => exact ⟨(y188), (0), z71_, H', ⟨Nat.le_refl _⟩, ⟨by (with_reducible repeat (first | apply Kd.R_alloc | apply Kd.R_drewN | apply Kd.R_drew)); exact HO190.out⟩, ⟨z62_⟩, ⟨z30_⟩⟩
  case round =>
   clear H'
   try clear c1
   try clear c2
   try clear p2
   try clear c3
   try clear c3b0
   try clear c3b1
   try clear c10
   try clear c11
   try clear hcz19_0
   try clear hcz19_1
   try clear hcz19_2
   try clear hcz19_3
   try clear hcz8_0
   try clear hcz8_1
   try clear hcz8_2
   try clear hcz8_3
   try clear hfz19_0
   try clear hfz19_1
   try clear hfz19_2
   try clear hfz19_3
   try clear hfz8_0
   try clear hfz8_1
   try clear hfz8_2
   try clear hfz8_3
   obtain ⟨x5_1, x30_1, rfl, HA, HK1, HO_5, BK179, HB⟩ := hrel
   cases gk with
   | zero => exact absurd HA.out (by simp [journal_Pairs.l0])
   | succ k1 =>
    have H := HA.out
    clear HA
    simp only [journal_Pairs.l0] at H
    by_cases c20 : x30_1 < (l0_3.length : Int)
    ·rw [if_pos c20] at H
     have c20b0 : decide (x30_1 < (l0_3.length : Int)) = true := decide_eq_true c20
     clear c20
     by_cases c21 : 0 ≤ x30_1
     ·rw [if_pos c21] at H
      have c21b0 : decide (0 ≤ x30_1) = true := decide_eq_true c21
      clear c21
      by_cases c22 : x30_1 < (l0_3.length : Int)
      ·rw [if_pos c22] at H
       have c22b0 : decide (x30_1 < (l0_3.length : Int)) = true := decide_eq_true c22
       clear c22
       replace H := Option.bind_eq_some_iff.mp H
       obtain ⟨t193, A230, H⟩ := H
       replace H : (if 12 ≤ (t193.size : Int) then (if 1 + (t193.extract 12 t193.size).size ≤ 9223372036854775807 then ((coin_Text.f ((rd_T36 l0_3 x30_1).f2)).bind fun t194 => ((journal_pair.f k1 a0_0 ((⟨#[49]⟩ : ByteArray) ++ (t193.extract 12 t193.size)) (([(rd_T36 l0_3 x30_1).f0, (rd_T36 l0_3 x30_1).f1, t194] : List ByteArray))).bind fun bt198 => (if x5_1.length < 4398046511104 then (journal_Pairs.l0 k1 (x5_1 ++ [(⟨bt198.1, bt198.2⟩ : S26)]) l0_3 (l0_3.length : Int) (wrap64 (x30_1 + 1)) a0_0 a0_1 a0_2 l0_3) else (none)))) else (none)) else (none)) = some (r1, r2) := H
       have A23 := a_ A230
       clear A230
       by_cases c24 : 12 ≤ (t193.size : Int)
       ·rw [if_pos c24] at H
        have c24b0 := eq_true c24
        have c24b1 : decide (12 ≤ (t193.size : Int)) = true := decide_eq_true c24
        clear c24
        by_cases c25 : 1 + (t193.extract 12 t193.size).size ≤ 9223372036854775807
        ·rw [if_pos c25] at H
         have c25b0 := eq_true c25
         have c25b1 : decide (1 + (t193.extract 12 t193.size).size ≤ 9223372036854775807) = true := decide_eq_true c25
         try have c25b2 : (9223372036854775807 < 1 + (t193.extract 12 t193.size).size) = False := eq_false (Nat.not_lt.2 c25)
         try have c25b5 : (9223372036854775807 < 1 + (t193.size - 12)) = False := by have h_ := c25b2; simpa [ByteArray.size_append, ByteArray.size_extract] using h_
         replace H := Option.bind_eq_some_iff.mp H
         obtain ⟨t194, A260, H⟩ := H
         replace H : ((journal_pair.f k1 a0_0 ((⟨#[49]⟩ : ByteArray) ++ (t193.extract 12 t193.size)) (([(rd_T36 l0_3 x30_1).f0, (rd_T36 l0_3 x30_1).f1, t194] : List ByteArray))).bind fun bt198 => (if x5_1.length < 4398046511104 then (journal_Pairs.l0 k1 (x5_1 ++ [(⟨bt198.1, bt198.2⟩ : S26)]) l0_3 (l0_3.length : Int) (wrap64 (x30_1 + 1)) a0_0 a0_1 a0_2 l0_3) else (none))) = some (r1, r2) := H
         have A26 := a_ A260
         clear A260
         obtain ⟨y195, hy195⟩ : ∃ y_ : List ByteArray, y_ = (([(rd_T36 l0_3 x30_1).f0, (rd_T36 l0_3 x30_1).f1, t194] : List ByteArray)) := ⟨_, rfl⟩
         replace H : ((journal_pair.f k1 a0_0 ((⟨#[49]⟩ : ByteArray) ++ (t193.extract 12 t193.size)) y195).bind fun bt198 => (if x5_1.length < 4398046511104 then (journal_Pairs.l0 k1 (x5_1 ++ [(⟨bt198.1, bt198.2⟩ : S26)]) l0_3 (l0_3.length : Int) (wrap64 (x30_1 + 1)) a0_0 a0_1 a0_2 l0_3) else (none))) = some (r1, r2) := by first | (rw [hy195]; with_reducible exact H) | (have H2_ := (Option.bind_some _ _).symm.trans H; rw [hy195]; with_reducible exact H2_) | (have H2_ := (Option.bind_some _ _).symm.trans H; with_reducible exact H2_) | with_reducible exact H | (rw [hy195]; exact H) | exact H
         have Ny195 := a_ hy195
         clear hy195
         replace H := Option.bind_eq_some_iff.mp H
         obtain ⟨⟨t198, t199⟩, A270, H⟩ := H
         replace H : (if x5_1.length < 4398046511104 then (journal_Pairs.l0 k1 (x5_1 ++ [(⟨t198, t199⟩ : S26)]) l0_3 (l0_3.length : Int) (wrap64 (x30_1 + 1)) a0_0 a0_1 a0_2 l0_3) else (none)) = some (r1, r2) := H
         have A27 := a_ A270
         clear A270
         by_cases c28 : x5_1.length < 4398046511104
         ·rw [if_pos c28] at H
          have LMc28 := a_ c28
          clear c28
          obtain ⟨y200, hy200⟩ : ∃ y_ : List (S26), y_ = (x5_1 ++ [(⟨t198, t199⟩ : S26)]) := ⟨_, rfl⟩
          replace H : (journal_Pairs.l0 k1 y200 l0_3 (l0_3.length : Int) (wrap64 (x30_1 + 1)) a0_0 a0_1 a0_2 l0_3) = some (r1, r2) := by first | (rw [hy200]; with_reducible exact H) | (have H2_ := (Option.bind_some _ _).symm.trans H; rw [hy200]; with_reducible exact H2_) | (have H2_ := (Option.bind_some _ _).symm.trans H; with_reducible exact H2_) | with_reducible exact H | (rw [hy200]; exact H) | exact H
          have Ny200 := a_ hy200
          clear hy200
          have H' := a_ H
          clear H
          have p191 : 0 ≤ (x30_1 : Int) := of_decide_eq_true z70_
          have q191 : x30_1 < (l0_3.length : Int) := of_decide_eq_true z70_
          obtain ⟨ad191, e191, hx191_0, hx191_1, hx191_2⟩ := at_T36 HR0_3.out x30_1 p191 q191
          cases e191
          replace hx191_0 := (HB.out.cell (World.block_lt_of_cell? w _ hx191_0)).trans hx191_0
          replace hx191_1 := (HB.out.cell (World.block_lt_of_cell? w _ hx191_1)).trans hx191_1
          replace hx191_2 := (HB.out.cell (World.block_lt_of_cell? w _ hx191_2)).trans hx191_2
          replace p191 := eq_true p191
          replace q191 := eq_true q191
          try go_wp2_with (first | ((with_reducible refine gate_dst (N := 7) rfl ?_); refine box_event ?hg (N := 7) ?hd (cs := #[.string (⟨#[]⟩ : ByteArray), .string (⟨#[]⟩ : ByteArray), .int .i64 0]) (t := 36) ?hr ?_; (case hd => rfl); (case hg => rfl); (case hr => first | (go_simp; done) | (go_simp; rfl)); intro gb192 hg w29 hbox hb; have n0_ := a_ (Kd.R_below z45_ hb); have n1_ := a_ (blk_below (g := gb179) (o := .cells #[.int .u64 a0_0, .int .u64 a0_1, .string a0_2, .slice (some ad191) l0_3.length c0_3] 39 (0, 0)) z62_ hb); have n2_ := a_ (below_step z30_ hb); have n3_ := a_ (hbox); have n4_ := a_ ((by rw [hg]; exact (below_size z30_) : w.heap.size ≤ gb192)); have n5_ := a_ ((by rw [hg]; exact (below_size z30_) : w.heap.size ≤ gb192)); have n6_ := a_ ((by rw [hg]; exact Nat.ne_of_lt (blk_lt (g := gb179) (o := .cells #[.int .u64 a0_0, .int .u64 a0_1, .string a0_2, .slice (some ad191) l0_3.length c0_3] 39 (0, 0)) z62_) : gb179 ≠ gb192)); have n7_ := a_ ((by rw [hg]; exact Nat.ne_of_gt (blk_lt (g := gb179) (o := .cells #[.int .u64 a0_0, .int .u64 a0_1, .string a0_2, .slice (some ad191) l0_3.length c0_3] 39 (0, 0)) z62_) : gb192 ≠ gb179)); clear HO_5; clear BK179; clear HB; have HO_5 := n0_; have BK179 := n1_; have HB := n2_; have BK192 := n3_; have GW192 := n4_; have GE192 := n5_; have NB179_192 := n6_; have NB192_179 := n7_; clear n0_ n1_ n2_ n3_ n4_ n5_ n6_ n7_; clear hb hbox hg; have hnb30 := NB192_179.out; have hnc30 := NB179_192.out; have hcz31_0 : w29.cell? ⟨gb192, 0, none⟩ = some (.string (⟨#[]⟩ : ByteArray)) := (blk_cell BK192.out 0).trans rfl; have hcz31_1 : w29.cell? ⟨gb192, 1, none⟩ = some (.string (⟨#[]⟩ : ByteArray)) := (blk_cell BK192.out 1).trans rfl; have hcz31_2 : w29.cell? ⟨gb192, 2, none⟩ = some (.int .i64 0) := (blk_cell BK192.out 2).trans rfl; have hfz31_0 := blk_frozen BK192.out 0; have hfz31_1 := blk_frozen BK192.out 1; have hfz31_2 := blk_frozen BK192.out 2))
          have n0_ : Aside0 (Kd.R k26 26 (((w29.setCell ⟨gb192, 0, none⟩ (.string ((rd_T36 l0_3 x30_1).f0))).setCell ⟨gb192, 1, none⟩ (.string ((rd_T36 l0_3 x30_1).f1))).setCell ⟨gb192, 2, none⟩ (.int .i64 ((rd_T36 l0_3 x30_1).f2))) w.heap.size (fun _ => True) u5 x5_1) := ⟨by (with_reducible repeat (first | apply Kd.R_alloc | apply Kd.R_drewN | apply Kd.R_drew)); exact Kd.R_mono (Kd.R_far (p := ⟨gb192, 2, none⟩) (Kd.R_far (p := ⟨gb192, 1, none⟩) (Kd.R_far (p := ⟨gb192, 0, none⟩) (Kd.R_types HO_5.out BK192.out (by decide)) (fun _ hk => hk.2) (.string ((rd_T36 l0_3 x30_1).f0))) (fun _ hk => hk.2) (.string ((rd_T36 l0_3 x30_1).f1))) (fun _ hk => hk.2) (.int .i64 ((rd_T36 l0_3 x30_1).f2))) (fun _ hk => trivial)⟩
          have n1_ : Aside0 ((((w29.setCell ⟨gb192, 0, none⟩ (.string ((rd_T36 l0_3 x30_1).f0))).setCell ⟨gb192, 1, none⟩ (.string ((rd_T36 l0_3 x30_1).f1))).setCell ⟨gb192, 2, none⟩ (.int .i64 ((rd_T36 l0_3 x30_1).f2))).heap[gb179]? = some (.cells #[.int .u64 a0_0, .int .u64 a0_1, .string a0_2, .slice (some ad191) l0_3.length c0_3] 39 (0, 0))) := ⟨by (with_reducible repeat (first | refine kN_ ?_ _ | refine kD_ ?_ | refine kA_ ?_ _)); refine blk_far ?_ NB179_192.out _; (with_reducible repeat (first | refine kN_ ?_ _ | refine kD_ ?_ | refine kA_ ?_ _)); refine blk_far ?_ NB179_192.out _; (with_reducible repeat (first | refine kN_ ?_ _ | refine kD_ ?_ | refine kA_ ?_ _)); refine blk_far ?_ NB179_192.out _; (with_reducible repeat (first | refine kN_ ?_ _ | refine kD_ ?_ | refine kA_ ?_ _)); exact BK179.out⟩
          have n2_ : Aside0 ((((w29.setCell ⟨gb192, 0, none⟩ (.string ((rd_T36 l0_3 x30_1).f0))).setCell ⟨gb192, 1, none⟩ (.string ((rd_T36 l0_3 x30_1).f1))).setCell ⟨gb192, 2, none⟩ (.int .i64 ((rd_T36 l0_3 x30_1).f2))).heap[gb192]? = some (.cells #[.string ((rd_T36 l0_3 x30_1).f0), .string ((rd_T36 l0_3 x30_1).f1), .int .i64 ((rd_T36 l0_3 x30_1).f2)] 36 (0, 0))) := ⟨by (with_reducible repeat (first | refine kN_ ?_ _ | refine kD_ ?_ | refine kA_ ?_ _)); refine blk_put (cs := #[.string ((rd_T36 l0_3 x30_1).f0), .string ((rd_T36 l0_3 x30_1).f1), .int .i64 0]) ?_ 2 _ rfl; (with_reducible repeat (first | refine kN_ ?_ _ | refine kD_ ?_ | refine kA_ ?_ _)); refine blk_put (cs := #[.string ((rd_T36 l0_3 x30_1).f0), .string (⟨#[]⟩ : ByteArray), .int .i64 0]) ?_ 1 _ rfl; (with_reducible repeat (first | refine kN_ ?_ _ | refine kD_ ?_ | refine kA_ ?_ _)); refine blk_put (cs := #[.string (⟨#[]⟩ : ByteArray), .string (⟨#[]⟩ : ByteArray), .int .i64 0]) ?_ 0 _ rfl; (with_reducible repeat (first | refine kN_ ?_ _ | refine kD_ ?_ | refine kA_ ?_ _)); exact BK192.out⟩
          have n3_ : Aside0 (Below w.heap.size w (((w29.setCell ⟨gb192, 0, none⟩ (.string ((rd_T36 l0_3 x30_1).f0))).setCell ⟨gb192, 1, none⟩ (.string ((rd_T36 l0_3 x30_1).f1))).setCell ⟨gb192, 2, none⟩ (.int .i64 ((rd_T36 l0_3 x30_1).f2)))) := ⟨z17_⟩
          (try clear HO_5)
          (try clear BK179)
          (try clear BK192)
          (try clear HB)
          generalize (((w29.setCell ⟨gb192, 0, none⟩ (.string ((rd_T36 l0_3 x30_1).f0))).setCell ⟨gb192, 1, none⟩ (.string ((rd_T36 l0_3 x30_1).f1))).setCell ⟨gb192, 2, none⟩ (.int .i64 ((rd_T36 l0_3 x30_1).f2))) = w32 at n0_ n1_ n2_ n3_ ⊢
          have HO_5 := n0_
          have BK179 := n1_
          have BK192 := n2_
          have HB := n3_
          clear n0_ n1_ n2_ n3_
          have n0_ := a_ (Kd.R_drew HO_5.out)
          have n1_ := a_ (blk_drew BK179.out)
          have n2_ := a_ (blk_drew BK192.out)
          have n3_ := a_ (below_drew1 HB.out)
          clear HO_5
          clear BK179
          clear BK192
          clear HB
          have HO_5 := n0_
          have BK179 := n1_
          have BK192 := n2_
          have HB := n3_
          clear n0_ n1_ n2_ n3_
          refine start_ (n := 20) (S := fun w' => w'.cell? ⟨gb179, 0, none⟩ = some (.int .u64 a0_0) ∧ w'.cell? ⟨gb179, 1, none⟩ = some (.int .u64 a0_1) ∧ w'.cell? ⟨gb179, 2, none⟩ = some (.string a0_2) ∧ w'.cell? ⟨gb179, 3, none⟩ = some (.slice (some ad191) l0_3.length c0_3) ∧ w'.cell? ⟨gb192, 0, none⟩ = some (.string ((rd_T36 l0_3 x30_1).f0)) ∧ w'.cell? ⟨gb192, 1, none⟩ = some (.string ((rd_T36 l0_3 x30_1).f1)) ∧ w'.cell? ⟨gb192, 2, none⟩ = some (.int .i64 ((rd_T36 l0_3 x30_1).f2))) (ds := []) #[false, false, false, false, false, false, false, false, false, false, false, false, false, false, false, false, false, false, false, false] z74_ rfl rfl ⟨(blk_cell BK179.out 0).trans rfl, (blk_cell BK179.out 1).trans rfl, (blk_cell BK179.out 2).trans rfl, (blk_cell BK179.out 3).trans rfl, (blk_cell BK192.out 0).trans rfl, (blk_cell BK192.out 1).trans rfl, (blk_cell BK192.out 2).trans rfl⟩ (fun hHeld => ?_); refine with_tabW journal_Pairs.tab8 journal_Pairs.bits8 (fun HT_ HW_ => ?_)
          generalize w32.drew = w33 at HO_5 BK179 BK192 HB hHeld ⊢
          refine pure_ (i := 0) (N := some 35) (v := ?_) (a' := ?_) (fl_ 20 1) rfl rfl (any_of HT_.out z74_) (fun _ _ _ h => h) (Or.inl ⟨by rfl, ?_⟩) ?_ ?_
          rotate_left
          ·intro w'
           go_simp
           with_reducible rfl
          rotate_left
          ·simp only [Act.put, sT_, s0_, sS_, i64_w, i32_w]
           rfl
          refine pure_ (i := 1) (N := some 36) (v := ?_) (a' := ?_) (fl_ 20 3) rfl rfl (any_of HT_.out z74_) (fun _ _ _ h => h) (Or.inl ⟨by rfl, ?_⟩) ?_ ?_
          rotate_left
          ·intro w'
           go_simp
           with_reducible rfl
          rotate_left
          ·simp only [Act.put, sT_, s0_, sS_, i64_w, i32_w]
           rfl
          refine pure_ (i := 3) (N := some 38) (v := ?_) (a' := ?_) (fl_ 20 11) rfl rfl (any_of HT_.out z74_) (fun _ _ _ h => h) (Or.inl ⟨by rfl, ?_⟩) ?_ ?_
          rotate_left
          ·intro w'
           go_simp
           with_reducible rfl
          rotate_left
          ·simp only [Act.put, sT_, s0_, sS_, i64_w, i32_w]
           rfl
          refine pure_ (i := 4) (N := some 39) (v := ?_) (a' := ?_) (fl_ 20 27) rfl rfl (any_of HT_.out z74_) (fun _ _ _ h => h) (Or.inl ⟨by rfl, ?_⟩) ?_ ?_
          rotate_left
          ·intro w'
           go_simp
           with_reducible rfl
          rotate_left
          ·simp only [Act.put, sT_, s0_, sS_, i64_w, i32_w]
           rfl
          refine pure_ (i := 8) (N := some 43) (v := ?_) (a' := ?_) (fl_ 20 283) rfl rfl (any_of HT_.out z74_) (fun _ _ _ h => h) (Or.inl ⟨by rfl, ?_⟩) ?_ ?_
          rotate_left
          ·intro w'
           go_simp
           with_reducible rfl
          rotate_left
          ·simp only [Act.put, sT_, s0_, sS_, i64_w, i32_w]
           rfl
          refine pure_ (i := 10) (N := some 45) (v := ?_) (a' := ?_) (fl_ 20 1307) rfl rfl (any_of HT_.out z74_) (fun _ _ _ h => h) (Or.inl ⟨by rfl, ?_⟩) ?_ ?_
          rotate_left
          ·intro w'
           go_simp
           with_reducible rfl
          rotate_left
          ·simp only [Act.put, sT_, s0_, sS_, i64_w, i32_w]
           rfl
          refine pure_ (i := 12) (N := some 47) (v := ?_) (a' := ?_) (fl_ 20 5403) rfl rfl (any_of HT_.out z74_) (fun _ _ _ h => h) (Or.inl ⟨by rfl, ?_⟩) ?_ ?_
          rotate_left
          ·intro w'
           go_simp
           with_reducible rfl
          rotate_left
          ·simp only [Act.put, sT_, s0_, sS_, i64_w, i32_w]
           rfl
          refine take_ (i := 2) (N := some 37) (v := ?_) (a' := ?_) (fl_ 20 5407) rfl rfl (take_ofW HT_.out HW_.out z74_) (fun _ _ _ h => h) (Or.inl ⟨by rfl, ?_⟩) hHeld ?_ ?_
          rotate_left
          ·rintro w' ⟨s0, s1, s2, s3, s4, s5, s6⟩
           go_simp
           with_reducible rfl
          rotate_left
          ·simp only [Act.put, sT_, s0_, sS_, i64_w, i32_w]
           rfl
          refine take_ (i := 9) (N := some 44) (v := ?_) (a' := ?_) (fl_ 20 5919) rfl rfl (take_ofW HT_.out HW_.out z74_) (fun _ _ _ h => h) (Or.inl ⟨by rfl, ?_⟩) hHeld ?_ ?_
          rotate_left
          ·rintro w' ⟨s0, s1, s2, s3, s4, s5, s6⟩
           go_simp
           with_reducible rfl
          rotate_left
          ·simp only [Act.put, sT_, s0_, sS_, i64_w, i32_w]
           rfl
          refine take_ (i := 11) (N := some 46) (v := ?_) (a' := ?_) (fl_ 20 7967) rfl rfl (take_ofW HT_.out HW_.out z74_) (fun _ _ _ h => h) (Or.inl ⟨by rfl, ?_⟩) hHeld ?_ ?_
          rotate_left
          ·rintro w' ⟨s0, s1, s2, s3, s4, s5, s6⟩
           go_simp
           with_reducible rfl
          rotate_left
          ·simp only [Act.put, sT_, s0_, sS_, i64_w, i32_w]
           rfl
          refine take_ (i := 13) (N := some 48) (v := ?_) (a' := ?_) (fl_ 20 16159) rfl rfl (take_ofW HT_.out HW_.out z74_) (fun _ _ _ h => h) (Or.inl ⟨by rfl, ?_⟩) hHeld ?_ ?_
          rotate_left
          ·rintro w' ⟨s0, s1, s2, s3, s4, s5, s6⟩
           go_simp
           with_reducible rfl
          rotate_left
          ·simp only [Act.put, sT_, s0_, sS_, i64_w, i32_w]
           rfl
          refine one_ (i := 5) (N := some 40) (fl_ 20 16191) rfl rfl (one_of HT_.out z74_) (by decide) (fun K hK => ?_)
          refine goes_ Tryz.func22 z74_ rfl #[.int .u64 (IntKind.u64.wrap (x30_1))] (by rfl) rfl rfl z19_ ?_
          with_reducible refine (label_Digits.calls (IntKind.u64.wrap (x30_1)) t193 _ ?side1 A23.out).mono ?_
          (case side1 => exact Glob.below HG.out z17_)
          rintro e w34 ⟨rfl, hb⟩
          refine ⟨_, rfl, ?_⟩
          have n0_ := a_ (Kd.R_below z45_ hb)
          have n1_ := a_ (blk_below (g := gb179) (o := .cells #[.int .u64 a0_0, .int .u64 a0_1, .string a0_2, .slice (some ad191) l0_3.length c0_3] 39 (0, 0)) z62_ hb)
          have n2_ := a_ (blk_below (g := gb192) (o := .cells #[.string ((rd_T36 l0_3 x30_1).f0), .string ((rd_T36 l0_3 x30_1).f1), .int .i64 ((rd_T36 l0_3 x30_1).f2)] 36 (0, 0)) z63_ hb)
          have n3_ := a_ (below_step z17_ hb)
          clear HO_5
          clear BK179
          clear BK192
          clear HB
          have HO_5 := n0_
          have BK179 := n1_
          have BK192 := n2_
          have HB := n3_
          clear n0_ n1_ n2_ n3_
          (try clear hb)
          (try clear hb2)
          (try clear hk)
          (try clear hi)
          refine hK.out _ _ ⟨(blk_cell BK179.out 0).trans rfl, (blk_cell BK179.out 1).trans rfl, (blk_cell BK179.out 2).trans rfl, (blk_cell BK179.out 3).trans rfl, (blk_cell BK192.out 0).trans rfl, (blk_cell BK192.out 1).trans rfl, (blk_cell BK192.out 2).trans rfl⟩ (fun hHeld => ?_)
          clear hK K
          refine norm_ (a' := ?_) ?_ ?_
          rotate_left
          ·show Act.put _ (some 40) _ = _
           simp only [Act.put, sT_, s0_, sS_, i64_w, i32_w]
           rfl
          refine pure_ (i := 6) (N := some 41) (v := ?_) (a' := ?_) (fl_ 20 16255) rfl rfl (any_of HT_.out z74_) (fun _ _ _ h => h) (Or.inl ⟨by rfl, ?_⟩) ?_ ?_
          rotate_left
          ·intro w'
           go_simp
           with_reducible rfl
          rotate_left
          ·simp only [Act.put, sT_, s0_, sS_, i64_w, i32_w]
           rfl
          refine pure_ (i := 7) (N := some 42) (v := ?_) (a' := ?_) (fl_ 20 16383) rfl rfl (any_of HT_.out z74_) (fun _ _ _ h => h) (Or.inl ⟨by rfl, ?_⟩) ?_ ?_
          rotate_left
          ·intro w'
           go_simp
           with_reducible rfl
          rotate_left
          ·simp only [Act.put, sT_, s0_, sS_, i64_w, i32_w]
           rfl
          refine one_ (i := 14) (N := some 49) (fl_ 20 32767) rfl rfl (one_of HT_.out z74_) (by decide) (fun K hK => ?_)
          refine goes_ Tryz.func23 z74_ rfl #[.int .i64 ((rd_T36 l0_3 x30_1).f2)] (by rfl) rfl rfl z19_ ?_
          with_reducible refine (coin_Text.calls ((rd_T36 l0_3 x30_1).f2) t194 _ ?side1 A26.out).mono ?_
          (case side1 => exact Glob.below HG.out z17_)
          rintro e w35 ⟨rfl, hb⟩
          refine ⟨_, rfl, ?_⟩
          have n0_ := a_ (Kd.R_below z45_ hb)
          have n1_ := a_ (blk_below (g := gb179) (o := .cells #[.int .u64 a0_0, .int .u64 a0_1, .string a0_2, .slice (some ad191) l0_3.length c0_3] 39 (0, 0)) z62_ hb)
          have n2_ := a_ (blk_below (g := gb192) (o := .cells #[.string ((rd_T36 l0_3 x30_1).f0), .string ((rd_T36 l0_3 x30_1).f1), .int .i64 ((rd_T36 l0_3 x30_1).f2)] 36 (0, 0)) z63_ hb)
          have n3_ := a_ (below_step z17_ hb)
          clear HO_5
          clear BK179
          clear BK192
          clear HB
          have HO_5 := n0_
          have BK179 := n1_
          have BK192 := n2_
          have HB := n3_
          clear n0_ n1_ n2_ n3_
          (try clear hb)
          (try clear hb2)
          (try clear hk)
          (try clear hi)
          refine hK.out _ _ ⟨(blk_cell BK179.out 0).trans rfl, (blk_cell BK179.out 1).trans rfl, (blk_cell BK179.out 2).trans rfl, (blk_cell BK179.out 3).trans rfl, (blk_cell BK192.out 0).trans rfl, (blk_cell BK192.out 1).trans rfl, (blk_cell BK192.out 2).trans rfl⟩ (fun hHeld => ?_)
          clear hK K
          refine norm_ (a' := ?_) ?_ ?_
          rotate_left
          ·show Act.put _ (some 49) _ = _
           simp only [Act.put, sT_, s0_, sS_, i64_w, i32_w]
           rfl
          refine one_ (i := 15) (N := some 50) (fl_ 20 65535) rfl rfl (one_of HT_.out z74_) (by decide) (fun K hK => ?_)
          refine Kd.R_lit_step Kd.string _ 9 ?hg (N := 50) ?hd (xs := ([(rd_T36 l0_3 x30_1).f0, (rd_T36 l0_3 x30_1).f1, t194] : List ByteArray)) (inner := [.string ((rd_T36 l0_3 x30_1).f0), .string ((rd_T36 l0_3 x30_1).f1), .string t194]) (ok := fun _ => True) (okp := fun _ => True) ?hr ?hp (fun _ hk => hk) trivial (Below.refl _ _) (Nat.le_refl _) (by simp) ?_; (case hd => rfl); (case hg => rfl); (case hr => first | (go_simp; done) | (go_simp; rfl)); (case hp => exact (Reps.one (show Kd.M Kd.string _ _ _ ((rd_T36 l0_3 x30_1).f0) [.string ((rd_T36 l0_3 x30_1).f0)] from rfl) (Reps.one (show Kd.M Kd.string _ _ _ ((rd_T36 l0_3 x30_1).f1) [.string ((rd_T36 l0_3 x30_1).f1)] from rfl) (Reps.one (show Kd.M Kd.string _ _ _ t194 [.string t194] from rfl) (Reps.none _ _)))))
          intro v196 w36 ho37 hb hg_ hnew_
          clear hg_ hnew_
          (first | rw [← Ny195.out] at ho37 | (simp only [Int.reduceToNat] at ho37; rw [← Ny195.out] at ho37))
          have n0_ := a_ (Kd.R_below z45_ hb)
          have n1_ := a_ (Kd.R_lower ho37 (below_size z17_))
          have n2_ := a_ (blk_below (g := gb179) (o := .cells #[.int .u64 a0_0, .int .u64 a0_1, .string a0_2, .slice (some ad191) l0_3.length c0_3] 39 (0, 0)) z62_ hb)
          have n3_ := a_ (blk_below (g := gb192) (o := .cells #[.string ((rd_T36 l0_3 x30_1).f0), .string ((rd_T36 l0_3 x30_1).f1), .int .i64 ((rd_T36 l0_3 x30_1).f2)] 36 (0, 0)) z63_ hb)
          have n4_ := a_ (below_step z17_ hb)
          clear HO_5
          clear BK179
          clear BK192
          clear HB
          have HO_5 := n0_
          have HO197 := n1_
          have BK179 := n2_
          have BK192 := n3_
          have HB := n4_
          clear n0_ n1_ n2_ n3_ n4_
          clear hb ho37
          obtain ⟨Ao38, co38, eo38⟩ := Kd.R_slice HO197.out
          (first | subst eo38 | (injection eo38 with f1_ f2_ f3_; have f4_ := f1_.symm; have f5_ := f3_.symm; clear f1_ f2_ f3_; subst f4_; subst f5_))
          refine hK.out _ _ ⟨(blk_cell BK179.out 0).trans rfl, (blk_cell BK179.out 1).trans rfl, (blk_cell BK179.out 2).trans rfl, (blk_cell BK179.out 3).trans rfl, (blk_cell BK192.out 0).trans rfl, (blk_cell BK192.out 1).trans rfl, (blk_cell BK192.out 2).trans rfl⟩ (fun hHeld => ?_)
          clear hK K
          refine norm_ (a' := ?_) ?_ ?_
          rotate_left
          ·show Act.put _ (some 50) _ = _
           simp only [Act.put, sT_, s0_, sS_, i64_w, i32_w]
           rfl
          refine one_ (i := 16) (N := some 51) (fl_ 20 131071) rfl rfl (one_of HT_.out z74_) (by decide) (fun K hK => ?_)
          refine goes_ Tryz.func21 z74_ rfl #[.int .u64 a0_0, .string ((⟨#[49]⟩ : ByteArray) ++ (t193.extract 12 t193.size)), .slice Ao38 y195.length co38] (by rfl) rfl rfl z19_ ?_
          with_reducible refine (journal_pair.calls k1 a0_0 ((⟨#[49]⟩ : ByteArray) ++ (t193.extract 12 t193.size)) _ _ y195 t198 t199 _ ?side1 ?side2 ?side3 A27.out).mono ?_
          (case side1 => exact Glob.below HG.out z17_)
          (case side2 => repeat (first | exact (Kd.R_reads' HO197.out).2.2 | (with_reducible refine Kd.C_alloc ?_ _) | (with_reducible refine Kd.C_drewN ?_ _) | (with_reducible refine Kd.C_drew ?_)))
          (case side3 => exact (Kd.R_reads' HO197.out).2.1)
          rintro e w39 ⟨rfl, hb⟩
          refine ⟨_, rfl, ?_⟩
          have n0_ := a_ (Kd.R_below z45_ hb)
          have n1_ := a_ (Kd.R_below (by (with_reducible repeat (first | apply Kd.R_alloc | apply Kd.R_drewN | apply Kd.R_drew)); exact HO197.out) hb)
          have n2_ := a_ (blk_below (g := gb179) (o := .cells #[.int .u64 a0_0, .int .u64 a0_1, .string a0_2, .slice (some ad191) l0_3.length c0_3] 39 (0, 0)) z62_ hb)
          have n3_ := a_ (blk_below (g := gb192) (o := .cells #[.string ((rd_T36 l0_3 x30_1).f0), .string ((rd_T36 l0_3 x30_1).f1), .int .i64 ((rd_T36 l0_3 x30_1).f2)] 36 (0, 0)) z63_ hb)
          have n4_ := a_ (below_step z17_ hb)
          clear HO_5
          clear HO197
          clear BK179
          clear BK192
          clear HB
          have HO_5 := n0_
          have HO197 := n1_
          have BK179 := n2_
          have BK192 := n3_
          have HB := n4_
          clear n0_ n1_ n2_ n3_ n4_
          (try clear hb)
          (try clear hb2)
          (try clear hk)
          (try clear hi)
          refine hK.out _ _ ⟨(blk_cell BK179.out 0).trans rfl, (blk_cell BK179.out 1).trans rfl, (blk_cell BK179.out 2).trans rfl, (blk_cell BK179.out 3).trans rfl, (blk_cell BK192.out 0).trans rfl, (blk_cell BK192.out 1).trans rfl, (blk_cell BK192.out 2).trans rfl⟩ (fun hHeld => ?_)
          clear hK K
          refine norm_ (a' := ?_) ?_ ?_
          rotate_left
          ·show Act.put _ (some 51) _ = _
           simp only [Act.put, sT_, s0_, sS_, i64_w, i32_w]
           rfl
          refine one_ (i := 17) (N := some 52) (fl_ 20 262143) rfl rfl (one_of HT_.out z74_) (by decide) (fun K hK => ?_)
          refine value_ (w1 := ?_) (v := ?_) (by rfl) rfl ?_ ?_
          rotate_left 2
          ·go_simp
           constructor
           ·rfl
           ·rfl
          refine hK.out _ _ ⟨(blk_cell (blk_alloc BK179.out _) 0).trans rfl, (blk_cell (blk_alloc BK179.out _) 1).trans rfl, (blk_cell (blk_alloc BK179.out _) 2).trans rfl, (blk_cell (blk_alloc BK179.out _) 3).trans rfl, (blk_cell (blk_alloc BK192.out _) 0).trans rfl, (blk_cell (blk_alloc BK192.out _) 1).trans rfl, (blk_cell (blk_alloc BK192.out _) 2).trans rfl⟩ (fun hHeld => ?_)
          clear hK K
          refine norm_ (a' := ?_) ?_ ?_
          rotate_left
          ·show Act.put _ (some 52) _ = _
           simp only [Act.put, sT_, s0_, sS_, i64_w, i32_w]
           rfl
          refine one_ (i := 18) (N := some 53) (fl_ 20 524287) rfl rfl (one_of HT_.out z74_) (by decide) (fun K hK => ?_)
          refine Kd.R_append_step k26 (w0 := w) w.heap.size (by rfl) (.tmp 35) (.tmp 52) 22 26 (.agg #[(.string ⟨#[]⟩), (.string ⟨#[]⟩)]) 32 rfl Tryz.underlying22 info26 rfl (by decide) (by omega) u5 x5_1 (⟨t198, t199⟩ : S26) [.string t198, .string t199] (fun _ => True) (fun _ => False) rfl rfl ?aP (fun _ hk => hk.elim) ?aF ?aO ?aB ?aS ?aL ?_
          (case aP => exact k26_mkM _ _ _ (⟨t198, t199⟩ : S26))
          (case aB => exact z17_)
          (case aF => exact (fun _ _ => trivial))
          (case aO => exact z45_)
          (case aS => exact (below_size z17_))
          (case aL => have := LMc28.out; omega)
          intro v201 w40 ho hb hg hat
          rw [← Ny200.out] at ho
          have n0_ := a_ (blk_grown (g := gb179) (o := .cells #[.int .u64 a0_0, .int .u64 a0_1, .string a0_2, .slice (some ad191) l0_3.length c0_3] 39 (0, 0)) z62_ hg (Kd.R_ne HO_5.out BK179.out (by decide)))
          have n1_ := a_ (blk_grown (g := gb192) (o := .cells #[.string ((rd_T36 l0_3 x30_1).f0), .string ((rd_T36 l0_3 x30_1).f1), .int .i64 ((rd_T36 l0_3 x30_1).f2)] 36 (0, 0)) z63_ hg (Kd.R_ne HO_5.out BK192.out (by decide)))
          have n2_ := a_ (Kd.R_over' (by (with_reducible repeat (first | apply Kd.R_alloc | apply Kd.R_drewN | apply Kd.R_drew)); exact HO197.out) (Kd.R_typed z45_) (by decide) hg)
          have n3_ := a_ (hb)
          have n4_ := a_ (ho)
          clear BK179
          clear BK192
          clear HO197
          clear HB
          clear HO_5
          have BK179 := n0_
          have BK192 := n1_
          have HO197 := n2_
          have HB := n3_
          have HO202 := n4_
          clear n0_ n1_ n2_ n3_ n4_
          clear ho hb hg hat
          refine hK.out _ _ ⟨(blk_cell BK179.out 0).trans rfl, (blk_cell BK179.out 1).trans rfl, (blk_cell BK179.out 2).trans rfl, (blk_cell BK179.out 3).trans rfl, (blk_cell BK192.out 0).trans rfl, (blk_cell BK192.out 1).trans rfl, (blk_cell BK192.out 2).trans rfl⟩ (fun hHeld => ?_)
          clear hK K
          refine norm_ (a' := ?_) ?_ ?_
          rotate_left
          ·show Act.put _ (some 53) _ = _
           simp only [Act.put, sT_, s0_, sS_, i64_w, i32_w]
           rfl
          refine pure_ (i := 19) (N := some 5) (v := ?_) (a' := ?_) (fl_ 20 1048575) rfl rfl (any_of HT_.out z74_) (fun _ _ _ h => h) (Or.inl ⟨by rfl, ?_⟩) ?_ ?_
          rotate_left
          ·intro w'
           go_simp
           with_reducible rfl
          rotate_left
          ·simp only [Act.put, sT_, s0_, sS_, i64_w, i32_w]
           rfl
          refine done_ (done_of HT_.out z74_) ?_
          try go_wp2
          go_roundg k1
          case measure => have := HK1.out; omega
          case rel => exact ⟨(y200), (wrap64 (x30_1 + 1)), z71_, H', ⟨z73_⟩, ⟨by (with_reducible repeat (first | apply Kd.R_alloc | apply Kd.R_drewN | apply Kd.R_drew)); exact HO202.out⟩, ⟨z62_⟩, ⟨z17_⟩⟩
         ·rw [if_neg c28] at H
          exact absurd H (by simp)
        ·rw [if_neg c25] at H
         exact absurd H (by simp)
       ·rw [if_neg c24] at H
        exact absurd H (by simp)
      ·rw [if_neg c22] at H
       exact absurd H (by simp)
     ·rw [if_neg c21] at H
      exact absurd H (by simp)
    ·rw [if_neg c20] at H
     have c20b0 : decide (x30_1 < (l0_3.length : Int)) = false := decide_eq_false c20
     clear c20
     simp only [Option.some.injEq, Prod.mk.injEq] at H
     obtain ⟨rfl, rfl⟩ := H
     go_wp2
     go_ret2
     exact ⟨_, z64_, z45_, z30_⟩
 ·rw [if_neg c3] at H
  have c3b0 : (t180 == 0) = false := beq_eq_false_iff_ne.mpr c3
  have c3b1 : (t180 != 0) = true := bne_iff_ne.mpr c3
  simp only [Option.some.injEq, Prod.mk.injEq] at H
  obtain ⟨rfl, rfl⟩ := H
  go_enter Tryz.func10, Tryz.ntmps10
  go_wp2_with (first | ((with_reducible refine gate_dst (N := 1) rfl ?_); refine box_event ?hg (N := 1) ?hd (cs := #[.int .u64 a0_0, .int .u64 a0_1, .string a0_2, .slice A0_3 l0_3.length c0_3]) (t := 39) ?hr ?_; (case hd => rfl); (case hg => rfl); (case hr => first | (go_simp; done) | (go_simp; rfl)); intro gb179 hg w41 hbox hb; have n0_ := a_ (below_step z33_ hb); have n1_ := a_ (hbox); have n2_ := a_ ((z20_ : w.heap.size ≤ gb179)); have n3_ := a_ ((z20_ : w.heap.size ≤ gb179)); clear HB; have HB := n0_; have BK179 := n1_; have GW179 := n2_; have GE179 := n3_; clear n0_ n1_ n2_ n3_; clear hb hbox hg; have hcz42_0 : w41.cell? ⟨gb179, 0, none⟩ = some (.int .u64 a0_0) := (blk_cell BK179.out 0).trans rfl; have hcz42_1 : w41.cell? ⟨gb179, 1, none⟩ = some (.int .u64 a0_1) := (blk_cell BK179.out 1).trans rfl; have hcz42_2 : w41.cell? ⟨gb179, 2, none⟩ = some (.string a0_2) := (blk_cell BK179.out 2).trans rfl; have hcz42_3 : w41.cell? ⟨gb179, 3, none⟩ = some (.slice A0_3 l0_3.length c0_3) := (blk_cell BK179.out 3).trans rfl; have hfz42_0 := blk_frozen BK179.out 0; have hfz42_1 := blk_frozen BK179.out 1; have hfz42_2 := blk_frozen BK179.out 2; have hfz42_3 := blk_frozen BK179.out 3) | ((with_reducible refine gate_callee (f := 11) rfl ?_); refine goesL_ (some 9) rfl rfl Tryz.func11 z74_ rfl #[.agg #[.int .u64 a0_0, .int .u64 a0_1, .string a0_2, .slice A0_3 l0_3.length c0_3]] rfl z19_ ?_; (with_reducible refine (journal_Check.calls a0_0 a0_1 a0_2 _ _ l0_3 t180 _ ?side1 ?side2 ?side3 A2.out).mono ?_); (case side1 => exact Glob.below HG.out z30_); (case side2 => repeat (first | exact (Kd.C_below HR0_3.out HB.out) | (with_reducible refine Kd.C_alloc ?_ _) | (with_reducible refine Kd.C_drewN ?_ _) | (with_reducible refine Kd.C_drew ?_))); (case side3 => exact HC0_3.out); rintro e w43 ⟨rfl, hb⟩; refine ⟨_, rfl, ?_⟩; have n0_ := a_ (blk_below (g := gb179) (o := .cells #[.int .u64 a0_0, .int .u64 a0_1, .string a0_2, .slice A0_3 l0_3.length c0_3] 39 (0, 0)) z62_ hb); have n1_ := a_ (below_step z30_ hb); clear BK179; clear HB; have BK179 := n0_; have HB := n1_; clear n0_ n1_; (try clear hb); (try clear hb2); (try clear hk); (try clear hi)))
  go_ret2
  exact ⟨_, z64_, z18_, z30_⟩

end Go.Proofs.YtjlifcbddednaaaGreatDoor.P
