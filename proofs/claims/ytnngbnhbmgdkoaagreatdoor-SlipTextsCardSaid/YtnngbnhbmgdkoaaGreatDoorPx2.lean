-- Laid by wip/tools/cprint.py of this claim's own repo (over the kit's print).
import Derived.Test.YtnngbnhbmgdkoaaGreatDoorSq
import Derived.Test.YtnngbnhbmgdkoaaGreatDoorPx0
import Derived.Test.YtnngbnhbmgdkoaaGreatDoorOf
import Derived.Test.YtnngbnhbmgdkoaaGreatDoorSum
namespace Go.Proofs.YtnngbnhbmgdkoaaGreatDoor.P
open Go.RowKit Go.Proofs.YtnngbnhbmgdkoaaGreatDoor.E Go.Proofs.YtnngbnhbmgdkoaaGreatDoorW.PrintWords Go.Proofs.YtnngbnhbmgdkoaaGreatDoorW.PrintLast
set_option linter.unusedVariables false
set_option linter.unusedSimpArgs false

/-! ### label_Word: function 35 -/
def label_Word.f (a0 : ByteArray) : Option (Bool) := (label_of.f a0 12 (([(⟨#[97, 98, 99, 100, 101, 102, 103, 104, 105, 106, 107, 108, 109, 110, 111, 112, 113, 114, 115, 116, 117, 118, 119, 120, 121, 122]⟩ : ByteArray), (⟨#[65, 66, 67, 68, 69, 70, 71, 72, 73, 74, 75, 76, 77, 78, 79, 80, 81, 82, 83, 84, 85, 86, 87, 88, 89, 90]⟩ : ByteArray), (⟨#[48, 49, 50, 51, 52, 53, 54, 55, 56, 57]⟩ : ByteArray), (⟨#[45]⟩ : ByteArray)] : List ByteArray))).bind fun t104 => (some t104)
set_option maxHeartbeats 8000000 in
set_option maxRecDepth 100000 in
theorem label_Word.calls (a0 : ByteArray) (r : Bool) (w : World) (hG : Glob w) (h : label_Word.f a0 = some r) :
  Calls Tryz.prog 35 #[.string a0] w fun e w' => e = .returned (.bool r) ∧ Below w.heap.size w w' := by
 have HG := a_ hG
 clear hG
 have HB := a_ (Below.refl w.heap.size w)
 have H : ((label_of.f a0 12 (([(⟨#[97, 98, 99, 100, 101, 102, 103, 104, 105, 106, 107, 108, 109, 110, 111, 112, 113, 114, 115, 116, 117, 118, 119, 120, 121, 122]⟩ : ByteArray), (⟨#[65, 66, 67, 68, 69, 70, 71, 72, 73, 74, 75, 76, 77, 78, 79, 80, 81, 82, 83, 84, 85, 86, 87, 88, 89, 90]⟩ : ByteArray), (⟨#[48, 49, 50, 51, 52, 53, 54, 55, 56, 57]⟩ : ByteArray), (⟨#[45]⟩ : ByteArray)] : List ByteArray))).bind fun t104 => (some t104)) = some r := h
 clear h
 obtain ⟨y101, hy101⟩ : ∃ y_ : List ByteArray, y_ = (([(⟨#[97, 98, 99, 100, 101, 102, 103, 104, 105, 106, 107, 108, 109, 110, 111, 112, 113, 114, 115, 116, 117, 118, 119, 120, 121, 122]⟩ : ByteArray), (⟨#[65, 66, 67, 68, 69, 70, 71, 72, 73, 74, 75, 76, 77, 78, 79, 80, 81, 82, 83, 84, 85, 86, 87, 88, 89, 90]⟩ : ByteArray), (⟨#[48, 49, 50, 51, 52, 53, 54, 55, 56, 57]⟩ : ByteArray), (⟨#[45]⟩ : ByteArray)] : List ByteArray)) := ⟨_, rfl⟩
 replace H : ((label_of.f a0 12 y101).bind fun t104 => (some t104)) = some r := by first | (rw [hy101]; with_reducible exact H) | (have H2_ := (Option.bind_some _ _).symm.trans H; rw [hy101]; with_reducible exact H2_) | (have H2_ := (Option.bind_some _ _).symm.trans H; with_reducible exact H2_) | with_reducible exact H | (rw [hy101]; exact H) | exact H
 have Ny101 := a_ hy101
 clear hy101
 replace H := Option.bind_eq_some_iff.mp H
 obtain ⟨t104, A20, H⟩ := H
 replace H : (some t104) = some r := H
 have A2 := a_ A20
 clear A20
 obtain rfl := Option.some.inj H
 go_enter Tryz.func35, Tryz.ntmps35
 go_wp2_with (first | ((with_reducible refine gate_dst (N := 4) rfl ?_); refine Kd.R_lit Kd.string _ 9 ?hg (N := 4) ?hd (xs := ([(⟨#[97, 98, 99, 100, 101, 102, 103, 104, 105, 106, 107, 108, 109, 110, 111, 112, 113, 114, 115, 116, 117, 118, 119, 120, 121, 122]⟩ : ByteArray), (⟨#[65, 66, 67, 68, 69, 70, 71, 72, 73, 74, 75, 76, 77, 78, 79, 80, 81, 82, 83, 84, 85, 86, 87, 88, 89, 90]⟩ : ByteArray), (⟨#[48, 49, 50, 51, 52, 53, 54, 55, 56, 57]⟩ : ByteArray), (⟨#[45]⟩ : ByteArray)] : List ByteArray)) (inner := [.string (⟨#[97, 98, 99, 100, 101, 102, 103, 104, 105, 106, 107, 108, 109, 110, 111, 112, 113, 114, 115, 116, 117, 118, 119, 120, 121, 122]⟩ : ByteArray), .string (⟨#[65, 66, 67, 68, 69, 70, 71, 72, 73, 74, 75, 76, 77, 78, 79, 80, 81, 82, 83, 84, 85, 86, 87, 88, 89, 90]⟩ : ByteArray), .string (⟨#[48, 49, 50, 51, 52, 53, 54, 55, 56, 57]⟩ : ByteArray), .string (⟨#[45]⟩ : ByteArray)]) (ok := fun _ => True) (okp := fun _ => True) ?hr ?hp (fun _ hk => hk) trivial (Below.refl _ _) (Nat.le_refl _) (by simp) ?_; (case hd => rfl); (case hg => rfl); (case hr => first | (go_simp; done) | (go_simp; rfl)); (case hp => exact (Reps.one (show Kd.M Kd.string _ _ _ (⟨#[97, 98, 99, 100, 101, 102, 103, 104, 105, 106, 107, 108, 109, 110, 111, 112, 113, 114, 115, 116, 117, 118, 119, 120, 121, 122]⟩ : ByteArray) [.string (⟨#[97, 98, 99, 100, 101, 102, 103, 104, 105, 106, 107, 108, 109, 110, 111, 112, 113, 114, 115, 116, 117, 118, 119, 120, 121, 122]⟩ : ByteArray)] from rfl) (Reps.one (show Kd.M Kd.string _ _ _ (⟨#[65, 66, 67, 68, 69, 70, 71, 72, 73, 74, 75, 76, 77, 78, 79, 80, 81, 82, 83, 84, 85, 86, 87, 88, 89, 90]⟩ : ByteArray) [.string (⟨#[65, 66, 67, 68, 69, 70, 71, 72, 73, 74, 75, 76, 77, 78, 79, 80, 81, 82, 83, 84, 85, 86, 87, 88, 89, 90]⟩ : ByteArray)] from rfl) (Reps.one (show Kd.M Kd.string _ _ _ (⟨#[48, 49, 50, 51, 52, 53, 54, 55, 56, 57]⟩ : ByteArray) [.string (⟨#[48, 49, 50, 51, 52, 53, 54, 55, 56, 57]⟩ : ByteArray)] from rfl) (Reps.one (show Kd.M Kd.string _ _ _ (⟨#[45]⟩ : ByteArray) [.string (⟨#[45]⟩ : ByteArray)] from rfl) (Reps.none _ _)))))); intro v102 w3 ho4 hb hg_ hnew_; clear hg_ hnew_; (first | rw [← Ny101.out] at ho4 | (simp only [Int.reduceToNat] at ho4; rw [← Ny101.out] at ho4)); have n0_ := a_ (Kd.R_lower ho4 (below_size z45_)); have n1_ := a_ (below_step z45_ hb); clear HB; have HO103 := n0_; have HB := n1_; clear n0_ n1_; clear hb ho4; obtain ⟨Ao5, co5, eo5⟩ := Kd.R_slice HO103.out; subst eo5) | ((with_reducible refine gate_callee (f := 53) rfl ?_); refine goesL_ (some 5) rfl rfl Tryz.func53 z85_ rfl #[.string a0, .int .i64 12, .slice Ao5 y101.length co5] rfl z31_ ?_; (with_reducible refine (label_of.calls a0 12 _ _ y101 t104 _ ?side1 ?side2 ?side3 A2.out).mono ?_); (case side1 => exact Glob.below HG.out z45_); (case side2 => repeat (first | exact (Kd.R_reads' HO103.out).2.2 | (with_reducible refine Kd.C_alloc ?_ _) | (with_reducible refine Kd.C_drewN ?_ _) | (with_reducible refine Kd.C_drew ?_))); (case side3 => exact (Kd.R_reads' HO103.out).2.1); rintro e w6 ⟨rfl, hb⟩; refine ⟨_, rfl, ?_⟩; have n0_ := a_ (Kd.R_below (by (with_reducible repeat (first | apply Kd.R_alloc | apply Kd.R_drewN | apply Kd.R_drew)); exact HO103.out) hb); have n1_ := a_ (below_step z45_ hb); clear HO103; clear HB; have HO103 := n0_; have HB := n1_; clear n0_ n1_; (try clear hb); (try clear hb2); (try clear hk); (try clear hi)))
 go_ret
 exact ⟨z76_, z45_⟩

/-! ### label_Who: function 33 -/
def label_Who.f (a0 : ByteArray) : Option (Bool) := (label_of.f a0 8 (([(⟨#[97, 98, 99, 100, 101, 102, 103, 104, 105, 106, 107, 108, 109, 110, 111, 112, 113, 114, 115, 116, 117, 118, 119, 120, 121, 122]⟩ : ByteArray), (⟨#[48, 49, 50, 51, 52, 53, 54, 55, 56, 57]⟩ : ByteArray)] : List ByteArray))).bind fun t108 => (if t108 = true then (if 0 ≤ 1 then (if 1 ≤ (a0.size : Int) then ((label_of.f (a0.extract 0 1) 1 (([(⟨#[97, 98, 99, 100, 101, 102, 103, 104, 105, 106, 107, 108, 109, 110, 111, 112, 113, 114, 115, 116, 117, 118, 119, 120, 121, 122]⟩ : ByteArray)] : List ByteArray))).bind fun t112 => (some t112)) else (none)) else (none)) else (some false))
set_option maxHeartbeats 8000000 in
set_option maxRecDepth 100000 in
theorem label_Who.calls (a0 : ByteArray) (r : Bool) (w : World) (hG : Glob w) (h : label_Who.f a0 = some r) :
  Calls Tryz.prog 33 #[.string a0] w fun e w' => e = .returned (.bool r) ∧ Below w.heap.size w w' := by
 have HG := a_ hG
 clear hG
 have HB := a_ (Below.refl w.heap.size w)
 have H : ((label_of.f a0 8 (([(⟨#[97, 98, 99, 100, 101, 102, 103, 104, 105, 106, 107, 108, 109, 110, 111, 112, 113, 114, 115, 116, 117, 118, 119, 120, 121, 122]⟩ : ByteArray), (⟨#[48, 49, 50, 51, 52, 53, 54, 55, 56, 57]⟩ : ByteArray)] : List ByteArray))).bind fun t108 => (if t108 = true then (if 0 ≤ 1 then (if 1 ≤ (a0.size : Int) then ((label_of.f (a0.extract 0 1) 1 (([(⟨#[97, 98, 99, 100, 101, 102, 103, 104, 105, 106, 107, 108, 109, 110, 111, 112, 113, 114, 115, 116, 117, 118, 119, 120, 121, 122]⟩ : ByteArray)] : List ByteArray))).bind fun t112 => (some t112)) else (none)) else (none)) else (some false))) = some r := h
 clear h
 obtain ⟨y105, hy105⟩ : ∃ y_ : List ByteArray, y_ = (([(⟨#[97, 98, 99, 100, 101, 102, 103, 104, 105, 106, 107, 108, 109, 110, 111, 112, 113, 114, 115, 116, 117, 118, 119, 120, 121, 122]⟩ : ByteArray), (⟨#[48, 49, 50, 51, 52, 53, 54, 55, 56, 57]⟩ : ByteArray)] : List ByteArray)) := ⟨_, rfl⟩
 replace H : ((label_of.f a0 8 y105).bind fun t108 => (if t108 = true then (if 0 ≤ 1 then (if 1 ≤ (a0.size : Int) then ((label_of.f (a0.extract 0 1) 1 (([(⟨#[97, 98, 99, 100, 101, 102, 103, 104, 105, 106, 107, 108, 109, 110, 111, 112, 113, 114, 115, 116, 117, 118, 119, 120, 121, 122]⟩ : ByteArray)] : List ByteArray))).bind fun t112 => (some t112)) else (none)) else (none)) else (some false))) = some r := by first | (rw [hy105]; with_reducible exact H) | (have H2_ := (Option.bind_some _ _).symm.trans H; rw [hy105]; with_reducible exact H2_) | (have H2_ := (Option.bind_some _ _).symm.trans H; with_reducible exact H2_) | with_reducible exact H | (rw [hy105]; exact H) | exact H
 have Ny105 := a_ hy105
 clear hy105
 replace H := Option.bind_eq_some_iff.mp H
 obtain ⟨t108, A20, H⟩ := H
 replace H : (if t108 = true then (if 0 ≤ 1 then (if 1 ≤ (a0.size : Int) then ((label_of.f (a0.extract 0 1) 1 (([(⟨#[97, 98, 99, 100, 101, 102, 103, 104, 105, 106, 107, 108, 109, 110, 111, 112, 113, 114, 115, 116, 117, 118, 119, 120, 121, 122]⟩ : ByteArray)] : List ByteArray))).bind fun t112 => (some t112)) else (none)) else (none)) else (some false)) = some r := H
 have A2 := a_ A20
 clear A20
 by_cases c3 : t108 = true
 ·subst c3
  have H1 : (if 0 ≤ 1 then (if 1 ≤ (a0.size : Int) then ((label_of.f (a0.extract 0 1) 1 (([(⟨#[97, 98, 99, 100, 101, 102, 103, 104, 105, 106, 107, 108, 109, 110, 111, 112, 113, 114, 115, 116, 117, 118, 119, 120, 121, 122]⟩ : ByteArray)] : List ByteArray))).bind fun t112 => (some t112)) else (none)) else (none)) = some r := by rw [if_pos rfl] at H; exact H
  clear H
  have H := H1
  clear H1
  by_cases c4 : 0 ≤ 1
  ·rw [if_pos c4] at H
   have c4b0 := eq_true c4
   have c4b1 : decide (0 ≤ 1) = true := decide_eq_true c4
   clear c4
   by_cases c5 : 1 ≤ (a0.size : Int)
   ·rw [if_pos c5] at H
    have c5b0 := eq_true c5
    have c5b1 : decide (1 ≤ (a0.size : Int)) = true := decide_eq_true c5
    clear c5
    obtain ⟨y109, hy109⟩ : ∃ y_ : List ByteArray, y_ = (([(⟨#[97, 98, 99, 100, 101, 102, 103, 104, 105, 106, 107, 108, 109, 110, 111, 112, 113, 114, 115, 116, 117, 118, 119, 120, 121, 122]⟩ : ByteArray)] : List ByteArray)) := ⟨_, rfl⟩
    replace H : ((label_of.f (a0.extract 0 1) 1 y109).bind fun t112 => (some t112)) = some r := by first | (rw [hy109]; with_reducible exact H) | (have H2_ := (Option.bind_some _ _).symm.trans H; rw [hy109]; with_reducible exact H2_) | (have H2_ := (Option.bind_some _ _).symm.trans H; with_reducible exact H2_) | with_reducible exact H | (rw [hy109]; exact H) | exact H
    have Ny109 := a_ hy109
    clear hy109
    replace H := Option.bind_eq_some_iff.mp H
    obtain ⟨t112, A60, H⟩ := H
    replace H : (some t112) = some r := H
    have A6 := a_ A60
    clear A60
    obtain rfl := Option.some.inj H
    go_enter Tryz.func33, Tryz.ntmps33
    go_wp2_with (first | ((with_reducible refine gate_dst (N := 4) rfl ?_); (try (refine gate_guard (by rfl) ?_; dsimp only)); refine Kd.R_lit Kd.string _ 9 ?hg (N := 4) ?hd (xs := ([(⟨#[97, 98, 99, 100, 101, 102, 103, 104, 105, 106, 107, 108, 109, 110, 111, 112, 113, 114, 115, 116, 117, 118, 119, 120, 121, 122]⟩ : ByteArray), (⟨#[48, 49, 50, 51, 52, 53, 54, 55, 56, 57]⟩ : ByteArray)] : List ByteArray)) (inner := [.string (⟨#[97, 98, 99, 100, 101, 102, 103, 104, 105, 106, 107, 108, 109, 110, 111, 112, 113, 114, 115, 116, 117, 118, 119, 120, 121, 122]⟩ : ByteArray), .string (⟨#[48, 49, 50, 51, 52, 53, 54, 55, 56, 57]⟩ : ByteArray)]) (ok := fun _ => True) (okp := fun _ => True) ?hr ?hp (fun _ hk => hk) trivial (Below.refl _ _) (Nat.le_refl _) (by simp) ?_; (case hd => rfl); (case hg => rfl); (case hr => first | (go_simp; done) | (go_simp; rfl)); (case hp => exact (Reps.one (show Kd.M Kd.string _ _ _ (⟨#[97, 98, 99, 100, 101, 102, 103, 104, 105, 106, 107, 108, 109, 110, 111, 112, 113, 114, 115, 116, 117, 118, 119, 120, 121, 122]⟩ : ByteArray) [.string (⟨#[97, 98, 99, 100, 101, 102, 103, 104, 105, 106, 107, 108, 109, 110, 111, 112, 113, 114, 115, 116, 117, 118, 119, 120, 121, 122]⟩ : ByteArray)] from rfl) (Reps.one (show Kd.M Kd.string _ _ _ (⟨#[48, 49, 50, 51, 52, 53, 54, 55, 56, 57]⟩ : ByteArray) [.string (⟨#[48, 49, 50, 51, 52, 53, 54, 55, 56, 57]⟩ : ByteArray)] from rfl) (Reps.none _ _)))); intro v106 w7 ho8 hb hg_ hnew_; clear hg_ hnew_; (first | rw [← Ny105.out] at ho8 | (simp only [Int.reduceToNat] at ho8; rw [← Ny105.out] at ho8)); have n0_ := a_ (Kd.R_lower ho8 (below_size z45_)); have n1_ := a_ (below_step z45_ hb); clear HB; have HO107 := n0_; have HB := n1_; clear n0_ n1_; clear hb ho8; obtain ⟨Ao9, co9, eo9⟩ := Kd.R_slice HO107.out; subst eo9) | ((with_reducible refine gate_callee (f := 53) rfl ?_); refine goesL_ (some 5) rfl rfl Tryz.func53 z85_ rfl #[.string a0, .int .i64 8, .slice Ao9 y105.length co9] rfl z31_ ?_; (with_reducible refine (label_of.calls a0 8 _ _ y105 true _ ?side1 ?side2 ?side3 A2.out).mono ?_); (case side1 => exact Glob.below HG.out z45_); (case side2 => repeat (first | exact (Kd.R_reads' HO107.out).2.2 | (with_reducible refine Kd.C_alloc ?_ _) | (with_reducible refine Kd.C_drewN ?_ _) | (with_reducible refine Kd.C_drew ?_))); (case side3 => exact (Kd.R_reads' HO107.out).2.1); rintro e w10 ⟨rfl, hb⟩; refine ⟨_, rfl, ?_⟩; have n0_ := a_ (Kd.R_below z46_ hb); have n1_ := a_ (below_step z45_ hb); clear HO107; clear HB; have HO107 := n0_; have HB := n1_; clear n0_ n1_; (try clear hb); (try clear hb2); (try clear hk); (try clear hi)) | ((with_reducible refine gate_dst (N := 9) rfl ?_); (try (refine gate_guard (by rfl) ?_; dsimp only)); refine Kd.R_lit Kd.string _ 9 ?hg (N := 9) ?hd (xs := ([(⟨#[97, 98, 99, 100, 101, 102, 103, 104, 105, 106, 107, 108, 109, 110, 111, 112, 113, 114, 115, 116, 117, 118, 119, 120, 121, 122]⟩ : ByteArray)] : List ByteArray)) (inner := [.string (⟨#[97, 98, 99, 100, 101, 102, 103, 104, 105, 106, 107, 108, 109, 110, 111, 112, 113, 114, 115, 116, 117, 118, 119, 120, 121, 122]⟩ : ByteArray)]) (ok := fun _ => True) (okp := fun _ => True) ?hr ?hp (fun _ hk => hk) trivial (Below.refl _ _) (Nat.le_refl _) (by simp) ?_; (case hd => rfl); (case hg => rfl); (case hr => first | (go_simp; done) | (go_simp; rfl)); (case hp => exact (Reps.one (show Kd.M Kd.string _ _ _ (⟨#[97, 98, 99, 100, 101, 102, 103, 104, 105, 106, 107, 108, 109, 110, 111, 112, 113, 114, 115, 116, 117, 118, 119, 120, 121, 122]⟩ : ByteArray) [.string (⟨#[97, 98, 99, 100, 101, 102, 103, 104, 105, 106, 107, 108, 109, 110, 111, 112, 113, 114, 115, 116, 117, 118, 119, 120, 121, 122]⟩ : ByteArray)] from rfl) (Reps.none _ _))); intro v110 w11 ho12 hb hg_ hnew_; clear hg_ hnew_; (first | rw [← Ny109.out] at ho12 | (simp only [Int.reduceToNat] at ho12; rw [← Ny109.out] at ho12)); have n0_ := a_ (Kd.R_elder' z46_ (Kd.R_base ho12) hb); have n1_ := a_ (Kd.R_lower (Kd.R_new' ho12 (Kd.R_lt z46_)) (below_size z45_)); have n2_ := a_ (below_step z45_ hb); clear HO107; clear HB; have HO107 := n0_; have HO111 := n1_; have HB := n2_; clear n0_ n1_ n2_; clear hb ho12; obtain ⟨Ao13, co13, eo13⟩ := Kd.R_slice HO111.out; subst eo13) | (go_at_call 53; (with_reducible refine (label_of.calls (a0.extract 0 1) 1 _ _ y109 t112 _ ?side1 ?side2 ?side3 A6.out).mono ?_); (case side1 => exact Glob.below HG.out z45_); (case side2 => repeat (first | exact (Kd.R_reads' HO111.out).2.2 | (with_reducible refine Kd.C_alloc ?_ _) | (with_reducible refine Kd.C_drewN ?_ _) | (with_reducible refine Kd.C_drew ?_))); (case side3 => exact (Kd.R_reads' HO111.out).2.1); rintro e w14 ⟨rfl, hb⟩; have n0_ := a_ (Kd.R_below z46_ hb); have n1_ := a_ (Kd.R_below (by (with_reducible repeat (first | apply Kd.R_alloc | apply Kd.R_drewN | apply Kd.R_drew)); exact HO111.out) hb); have n2_ := a_ (below_step z45_ hb); clear HO107; clear HO111; clear HB; have HO107 := n0_; have HO111 := n1_; have HB := n2_; clear n0_ n1_ n2_; (try clear hb); (try clear hb2); (try clear hk); (try clear hi)))
    go_ret
    exact ⟨z76_, z45_⟩
   ·rw [if_neg c5] at H
    exact absurd H (by simp)
  ·rw [if_neg c4] at H
   exact absurd H (by simp)
 ·replace c3 := Bool.eq_false_iff.mpr c3
  subst c3
  have H1 : (some false) = some r := by rw [if_neg (show ¬ (false = true) by decide)] at H; exact H
  clear H
  have H := H1
  clear H1
  obtain rfl := Option.some.inj H
  go_enter Tryz.func33, Tryz.ntmps33
  go_wp2_with (first | ((with_reducible refine gate_dst (N := 4) rfl ?_); (try (refine gate_guard (by rfl) ?_; dsimp only)); refine Kd.R_lit Kd.string _ 9 ?hg (N := 4) ?hd (xs := ([(⟨#[97, 98, 99, 100, 101, 102, 103, 104, 105, 106, 107, 108, 109, 110, 111, 112, 113, 114, 115, 116, 117, 118, 119, 120, 121, 122]⟩ : ByteArray), (⟨#[48, 49, 50, 51, 52, 53, 54, 55, 56, 57]⟩ : ByteArray)] : List ByteArray)) (inner := [.string (⟨#[97, 98, 99, 100, 101, 102, 103, 104, 105, 106, 107, 108, 109, 110, 111, 112, 113, 114, 115, 116, 117, 118, 119, 120, 121, 122]⟩ : ByteArray), .string (⟨#[48, 49, 50, 51, 52, 53, 54, 55, 56, 57]⟩ : ByteArray)]) (ok := fun _ => True) (okp := fun _ => True) ?hr ?hp (fun _ hk => hk) trivial (Below.refl _ _) (Nat.le_refl _) (by simp) ?_; (case hd => rfl); (case hg => rfl); (case hr => first | (go_simp; done) | (go_simp; rfl)); (case hp => exact (Reps.one (show Kd.M Kd.string _ _ _ (⟨#[97, 98, 99, 100, 101, 102, 103, 104, 105, 106, 107, 108, 109, 110, 111, 112, 113, 114, 115, 116, 117, 118, 119, 120, 121, 122]⟩ : ByteArray) [.string (⟨#[97, 98, 99, 100, 101, 102, 103, 104, 105, 106, 107, 108, 109, 110, 111, 112, 113, 114, 115, 116, 117, 118, 119, 120, 121, 122]⟩ : ByteArray)] from rfl) (Reps.one (show Kd.M Kd.string _ _ _ (⟨#[48, 49, 50, 51, 52, 53, 54, 55, 56, 57]⟩ : ByteArray) [.string (⟨#[48, 49, 50, 51, 52, 53, 54, 55, 56, 57]⟩ : ByteArray)] from rfl) (Reps.none _ _)))); intro v106 w15 ho16 hb hg_ hnew_; clear hg_ hnew_; (first | rw [← Ny105.out] at ho16 | (simp only [Int.reduceToNat] at ho16; rw [← Ny105.out] at ho16)); have n0_ := a_ (Kd.R_lower ho16 (below_size z45_)); have n1_ := a_ (below_step z45_ hb); clear HB; have HO107 := n0_; have HB := n1_; clear n0_ n1_; clear hb ho16; obtain ⟨Ao17, co17, eo17⟩ := Kd.R_slice HO107.out; subst eo17) | ((with_reducible refine gate_callee (f := 53) rfl ?_); refine goesL_ (some 5) rfl rfl Tryz.func53 z85_ rfl #[.string a0, .int .i64 8, .slice Ao17 y105.length co17] rfl z31_ ?_; (with_reducible refine (label_of.calls a0 8 _ _ y105 false _ ?side1 ?side2 ?side3 A2.out).mono ?_); (case side1 => exact Glob.below HG.out z45_); (case side2 => repeat (first | exact (Kd.R_reads' HO107.out).2.2 | (with_reducible refine Kd.C_alloc ?_ _) | (with_reducible refine Kd.C_drewN ?_ _) | (with_reducible refine Kd.C_drew ?_))); (case side3 => exact (Kd.R_reads' HO107.out).2.1); rintro e w18 ⟨rfl, hb⟩; refine ⟨_, rfl, ?_⟩; have n0_ := a_ (Kd.R_below z46_ hb); have n1_ := a_ (below_step z45_ hb); clear HO107; clear HB; have HO107 := n0_; have HB := n1_; clear n0_ n1_; (try clear hb); (try clear hb2); (try clear hk); (try clear hi)))
  go_ret
  exact ⟨z76_, z45_⟩

/-! ### label_Asset: function 34 -/
def label_Asset.f (a0 : ByteArray) : Option (Bool) := (label_of.f a0 6 (([(⟨#[65, 66, 67, 68, 69, 70, 71, 72, 73, 74, 75, 76, 77, 78, 79, 80, 81, 82, 83, 84, 85, 86, 87, 88, 89, 90]⟩ : ByteArray)] : List ByteArray))).bind fun t116 => (some t116)
set_option maxHeartbeats 8000000 in
set_option maxRecDepth 100000 in
theorem label_Asset.calls (a0 : ByteArray) (r : Bool) (w : World) (hG : Glob w) (h : label_Asset.f a0 = some r) :
  Calls Tryz.prog 34 #[.string a0] w fun e w' => e = .returned (.bool r) ∧ Below w.heap.size w w' := by
 have HG := a_ hG
 clear hG
 have HB := a_ (Below.refl w.heap.size w)
 have H : ((label_of.f a0 6 (([(⟨#[65, 66, 67, 68, 69, 70, 71, 72, 73, 74, 75, 76, 77, 78, 79, 80, 81, 82, 83, 84, 85, 86, 87, 88, 89, 90]⟩ : ByteArray)] : List ByteArray))).bind fun t116 => (some t116)) = some r := h
 clear h
 obtain ⟨y113, hy113⟩ : ∃ y_ : List ByteArray, y_ = (([(⟨#[65, 66, 67, 68, 69, 70, 71, 72, 73, 74, 75, 76, 77, 78, 79, 80, 81, 82, 83, 84, 85, 86, 87, 88, 89, 90]⟩ : ByteArray)] : List ByteArray)) := ⟨_, rfl⟩
 replace H : ((label_of.f a0 6 y113).bind fun t116 => (some t116)) = some r := by first | (rw [hy113]; with_reducible exact H) | (have H2_ := (Option.bind_some _ _).symm.trans H; rw [hy113]; with_reducible exact H2_) | (have H2_ := (Option.bind_some _ _).symm.trans H; with_reducible exact H2_) | with_reducible exact H | (rw [hy113]; exact H) | exact H
 have Ny113 := a_ hy113
 clear hy113
 replace H := Option.bind_eq_some_iff.mp H
 obtain ⟨t116, A20, H⟩ := H
 replace H : (some t116) = some r := H
 have A2 := a_ A20
 clear A20
 obtain rfl := Option.some.inj H
 go_enter Tryz.func34, Tryz.ntmps34
 go_wp2_with (first | ((with_reducible refine gate_dst (N := 4) rfl ?_); refine Kd.R_lit Kd.string _ 9 ?hg (N := 4) ?hd (xs := ([(⟨#[65, 66, 67, 68, 69, 70, 71, 72, 73, 74, 75, 76, 77, 78, 79, 80, 81, 82, 83, 84, 85, 86, 87, 88, 89, 90]⟩ : ByteArray)] : List ByteArray)) (inner := [.string (⟨#[65, 66, 67, 68, 69, 70, 71, 72, 73, 74, 75, 76, 77, 78, 79, 80, 81, 82, 83, 84, 85, 86, 87, 88, 89, 90]⟩ : ByteArray)]) (ok := fun _ => True) (okp := fun _ => True) ?hr ?hp (fun _ hk => hk) trivial (Below.refl _ _) (Nat.le_refl _) (by simp) ?_; (case hd => rfl); (case hg => rfl); (case hr => first | (go_simp; done) | (go_simp; rfl)); (case hp => exact (Reps.one (show Kd.M Kd.string _ _ _ (⟨#[65, 66, 67, 68, 69, 70, 71, 72, 73, 74, 75, 76, 77, 78, 79, 80, 81, 82, 83, 84, 85, 86, 87, 88, 89, 90]⟩ : ByteArray) [.string (⟨#[65, 66, 67, 68, 69, 70, 71, 72, 73, 74, 75, 76, 77, 78, 79, 80, 81, 82, 83, 84, 85, 86, 87, 88, 89, 90]⟩ : ByteArray)] from rfl) (Reps.none _ _))); intro v114 w3 ho4 hb hg_ hnew_; clear hg_ hnew_; (first | rw [← Ny113.out] at ho4 | (simp only [Int.reduceToNat] at ho4; rw [← Ny113.out] at ho4)); have n0_ := a_ (Kd.R_lower ho4 (below_size z45_)); have n1_ := a_ (below_step z45_ hb); clear HB; have HO115 := n0_; have HB := n1_; clear n0_ n1_; clear hb ho4; obtain ⟨Ao5, co5, eo5⟩ := Kd.R_slice HO115.out; subst eo5) | ((with_reducible refine gate_callee (f := 53) rfl ?_); refine goesL_ (some 5) rfl rfl Tryz.func53 z85_ rfl #[.string a0, .int .i64 6, .slice Ao5 y113.length co5] rfl z31_ ?_; (with_reducible refine (label_of.calls a0 6 _ _ y113 t116 _ ?side1 ?side2 ?side3 A2.out).mono ?_); (case side1 => exact Glob.below HG.out z45_); (case side2 => repeat (first | exact (Kd.R_reads' HO115.out).2.2 | (with_reducible refine Kd.C_alloc ?_ _) | (with_reducible refine Kd.C_drewN ?_ _) | (with_reducible refine Kd.C_drew ?_))); (case side3 => exact (Kd.R_reads' HO115.out).2.1); rintro e w6 ⟨rfl, hb⟩; refine ⟨_, rfl, ?_⟩; have n0_ := a_ (Kd.R_below (by (with_reducible repeat (first | apply Kd.R_alloc | apply Kd.R_drewN | apply Kd.R_drew)); exact HO115.out) hb); have n1_ := a_ (below_step z45_ hb); clear HO115; clear HB; have HO115 := n0_; have HB := n1_; clear n0_ n1_; (try clear hb); (try clear hb2); (try clear hk); (try clear hi)))
 go_ret
 exact ⟨z76_, z45_⟩

/-! ### slip_whole: function 32 -/
def slip_whole.l0 : Nat → List Int → List (S37) → Int → Int → Option (Int × Int)
 | 0, _, _, _, _ => none
 | k + 1, x4, x11, x12, x13 => if x13 < x12 then (if 0 ≤ x13 then (if x13 < (x11.length : Int) then (if x4.length < 17592186044416 then (slip_whole.l0 k (x4 ++ [(rd_T37 x11 x13).f2]) x11 x12 (wrap64 (x13 + 1))) else (none)) else (none)) else (none)) else ((coin_Sum.f x4).bind fun bt126 => (some (bt126.1, bt126.2)))
def slip_whole.f (k : Nat) (a0_0 : ByteArray) (a0_1 : ByteArray) (a0_2 : Int) (a0_3 : Int) (l0_4 : List (S37)) (a0_5 : Int) : Option (Int × Int) := slip_whole.l0 k (([a0_3] : List Int)) l0_4 (l0_4.length : Int) 0
theorem slip_whole.mono_l : ∀ k, (∀ y0 y1 y2 y3, LeO (slip_whole.l0 k y0 y1 y2 y3) (slip_whole.l0 (k + 1) y0 y1 y2 y3))
 | 0 => fun _ _ _ _ r h => by simp [slip_whole.l0] at h
 | k + 1 => by
  have ih0 := slip_whole.mono_l k
  ·intro y0 y1 y2 y3
   unfold slip_whole.l0
   repeat' first
   | (with_reducible exact ih0 _ _ _ _)
   | (with_reducible first | exact LeO.refl _ | exact LeO.none _ | refine LeO.ite ?_ ?_ | refine LeO.bind ?_ fun _ => ?_)
   | exact ih0 _ _ _ _
theorem slip_whole.mono : ∀ a0 a1 a2 a3 a4 a5 k, LeO (slip_whole.f k a0 a1 a2 a3 a4 a5) (slip_whole.f (k + 1) a0 a1 a2 a3 a4 a5) := by
 intro a0 a1 a2 a3 a4 a5 k
 have ih0 := slip_whole.mono_l k
 unfold slip_whole.f
 repeat' first
   | (with_reducible exact ih0 _ _ _ _)
   | (with_reducible first | exact LeO.refl _ | exact LeO.none _ | refine LeO.ite ?_ ?_ | refine LeO.bind ?_ fun _ => ?_)
   | exact ih0 _ _ _ _
set_option maxHeartbeats 8000000 in
set_option maxRecDepth 100000 in
theorem slip_whole.calls (k : Nat) (a0_0 : ByteArray) (a0_1 : ByteArray) (a0_2 : Int) (a0_3 : Int) (A0_4 : Option Addr) (c0_4 : Nat) (l0_4 : List (S37)) (a0_5 : Int) (r1 : Int) (r2 : Int) (w : World) (hG : Glob w) (hr0_4 : Kd.C k37 w A0_4 l0_4.length l0_4) (hc0_4 : l0_4.length ≤ c0_4) (h : slip_whole.f k a0_0 a0_1 a0_2 a0_3 l0_4 a0_5 = some (r1, r2)) :
  Calls Tryz.prog 32 #[.agg #[.string a0_0, .string a0_1, .int .u64 a0_2, .int .i64 a0_3, .slice A0_4 l0_4.length c0_4, .int .i64 a0_5]] w fun e w' => e = .returned (.tuple #[.int .i64 r1, .int .i64 r2]) ∧ Below w.heap.size w w' := by
 have hu25 := Tryz.underlying25
 have hu37 := Tryz.underlying37
 have HG := a_ hG
 clear hG
 have HR0_4 := a_ hr0_4
 have HC0_4 := a_ hc0_4
 clear hr0_4 hc0_4
 have HB := a_ (Below.refl w.heap.size w)
 have H : (slip_whole.l0 k (([a0_3] : List Int)) l0_4 (l0_4.length : Int) 0) = some (r1, r2) := h
 clear h
 obtain ⟨y118, hy118⟩ : ∃ y_ : List Int, y_ = (([a0_3] : List Int)) := ⟨_, rfl⟩
 replace H : (slip_whole.l0 k y118 l0_4 (l0_4.length : Int) 0) = some (r1, r2) := by first | (rw [hy118]; with_reducible exact H) | (have H2_ := (Option.bind_some _ _).symm.trans H; rw [hy118]; with_reducible exact H2_) | (have H2_ := (Option.bind_some _ _).symm.trans H; with_reducible exact H2_) | with_reducible exact H | (rw [hy118]; exact H) | exact H
 have Ny118 := a_ hy118
 clear hy118
 have H' := a_ H
 clear H
 go_enter Tryz.func32, Tryz.ntmps32
 go_wp2_with (first | ((with_reducible refine gate_dst (N := 1) rfl ?_); refine box_event ?hg (N := 1) ?hd (cs := #[.string a0_0, .string a0_1, .int .u64 a0_2, .int .i64 a0_3, .slice A0_4 l0_4.length c0_4, .int .i64 a0_5]) (t := 25) ?hr ?_; (case hd => rfl); (case hg => rfl); (case hr => first | (go_simp; done) | (go_simp; rfl)); intro gb117 hg w2 hbox hb; have n0_ := a_ (below_step z45_ hb); have n1_ := a_ (hbox); have n2_ := a_ ((z32_ : w.heap.size ≤ gb117)); have n3_ := a_ ((z32_ : w.heap.size ≤ gb117)); clear HB; have HB := n0_; have BK117 := n1_; have GW117 := n2_; have GE117 := n3_; clear n0_ n1_ n2_ n3_; clear hb hbox hg; have hcz3_0 : w2.cell? ⟨gb117, 0, none⟩ = some (.string a0_0) := (blk_cell BK117.out 0).trans rfl; have hcz3_1 : w2.cell? ⟨gb117, 1, none⟩ = some (.string a0_1) := (blk_cell BK117.out 1).trans rfl; have hcz3_2 : w2.cell? ⟨gb117, 2, none⟩ = some (.int .u64 a0_2) := (blk_cell BK117.out 2).trans rfl; have hcz3_3 : w2.cell? ⟨gb117, 3, none⟩ = some (.int .i64 a0_3) := (blk_cell BK117.out 3).trans rfl; have hcz3_4 : w2.cell? ⟨gb117, 4, none⟩ = some (.slice A0_4 l0_4.length c0_4) := (blk_cell BK117.out 4).trans rfl; have hcz3_5 : w2.cell? ⟨gb117, 5, none⟩ = some (.int .i64 a0_5) := (blk_cell BK117.out 5).trans rfl; have hfz3_0 := blk_frozen BK117.out 0; have hfz3_1 := blk_frozen BK117.out 1; have hfz3_2 := blk_frozen BK117.out 2; have hfz3_3 := blk_frozen BK117.out 3; have hfz3_4 := blk_frozen BK117.out 4; have hfz3_5 := blk_frozen BK117.out 5) | ((with_reducible refine gate_dst (N := 9) rfl ?_); refine Kd.R_lit (Kd.int .i64) _ 2 ?hg (N := 9) ?hd (xs := ([a0_3] : List Int)) (inner := [.int .i64 a0_3]) (ok := fun _ => True) (okp := fun _ => True) ?hr ?hp (fun _ hk => hk) trivial (Below.refl _ _) (Nat.le_refl _) (by simp) ?_; (case hd => rfl); (case hg => rfl); (case hr => first | (go_simp; done) | (go_simp; rfl)); (case hp => exact (Reps.one (show Kd.M (Kd.int .i64) _ _ _ a0_3 [.int .i64 a0_3] from rfl) (Reps.none _ _))); intro v119 w4 ho5 hb hg_ hnew_; clear hg_ hnew_; (first | rw [← Ny118.out] at ho5 | (simp only [Int.reduceToNat] at ho5; rw [← Ny118.out] at ho5)); have n0_ := a_ (Kd.R_lower ho5 (below_size z33_)); have n1_ := a_ (blk_below (g := gb117) (o := .cells #[.string a0_0, .string a0_1, .int .u64 a0_2, .int .i64 a0_3, .slice A0_4 l0_4.length c0_4, .int .i64 a0_5] 25 (0, 0)) z61_ hb); have n2_ := a_ (below_step z33_ hb); clear BK117; clear HB; have HO120 := n0_; have BK117 := n1_; have HB := n2_; clear n0_ n1_ n2_; clear hb ho5; have hcz6_0 : w4.cell? ⟨gb117, 0, none⟩ = some (.string a0_0) := (blk_cell BK117.out 0).trans rfl; have hcz6_1 : w4.cell? ⟨gb117, 1, none⟩ = some (.string a0_1) := (blk_cell BK117.out 1).trans rfl; have hcz6_2 : w4.cell? ⟨gb117, 2, none⟩ = some (.int .u64 a0_2) := (blk_cell BK117.out 2).trans rfl; have hcz6_3 : w4.cell? ⟨gb117, 3, none⟩ = some (.int .i64 a0_3) := (blk_cell BK117.out 3).trans rfl; have hcz6_4 : w4.cell? ⟨gb117, 4, none⟩ = some (.slice A0_4 l0_4.length c0_4) := (blk_cell BK117.out 4).trans rfl; have hcz6_5 : w4.cell? ⟨gb117, 5, none⟩ = some (.int .i64 a0_5) := (blk_cell BK117.out 5).trans rfl; have hfz6_0 := blk_frozen BK117.out 0; have hfz6_1 := blk_frozen BK117.out 1; have hfz6_2 := blk_frozen BK117.out 2; have hfz6_3 := blk_frozen BK117.out 3; have hfz6_4 := blk_frozen BK117.out 4; have hfz6_5 := blk_frozen BK117.out 5))
 go_loopg [4, 13] k (fun kq v4 v13 w' => ∃ (x4_1 : List Int) (x13_1 : Int), v13 = .int .i64 x13_1 ∧ Aside0 (slip_whole.l0 kq x4_1 l0_4 (l0_4.length : Int) x13_1 = some (r1, r2)) ∧ Aside0 (kq ≤ k) ∧ Aside0 (Kd.R (Kd.int .i64) 2 w' w.heap.size (fun _ => True) v4 x4_1) ∧ Aside0 (w'.heap[gb117]? = some (.cells #[.string a0_0, .string a0_1, .int .u64 a0_2, .int .i64 a0_3, (.slice A0_4 l0_4.length c0_4), .int .i64 a0_5] 25 (0, 0))) ∧ Aside0 (Below w.heap.size w w'))
 case atStart => exact ⟨(y118), (0), z80_, H', ⟨Nat.le_refl _⟩, ⟨by (with_reducible repeat (first | apply Kd.R_alloc | apply Kd.R_drewN | apply Kd.R_drew)); exact HO120.out⟩, ⟨z61_⟩, ⟨z33_⟩⟩
 case round =>
  clear H'
  try clear p2
  try clear c3
  try clear hcz3_0
  try clear hcz3_1
  try clear hcz3_2
  try clear hcz3_3
  try clear hcz3_4
  try clear hcz3_5
  try clear hcz6_0
  try clear hcz6_1
  try clear hcz6_2
  try clear hcz6_3
  try clear hcz6_4
  try clear hcz6_5
  try clear hfz3_0
  try clear hfz3_1
  try clear hfz3_2
  try clear hfz3_3
  try clear hfz3_4
  try clear hfz3_5
  try clear hfz6_0
  try clear hfz6_1
  try clear hfz6_2
  try clear hfz6_3
  try clear hfz6_4
  try clear hfz6_5
  obtain ⟨x4_1, x13_1, rfl, HA, HK1, HO_4, BK117, HB⟩ := hrel
  cases gk with
  | zero => exact absurd HA.out (by simp [slip_whole.l0])
  | succ k1 =>
   have H := HA.out
   clear HA
   simp only [slip_whole.l0] at H
   by_cases c7 : x13_1 < (l0_4.length : Int)
   ·rw [if_pos c7] at H
    have c7b0 : decide (x13_1 < (l0_4.length : Int)) = true := decide_eq_true c7
    clear c7
    by_cases c8 : 0 ≤ x13_1
    ·rw [if_pos c8] at H
     have c8b0 : decide (0 ≤ x13_1) = true := decide_eq_true c8
     clear c8
     by_cases c9 : x13_1 < (l0_4.length : Int)
     ·rw [if_pos c9] at H
      have c9b0 : decide (x13_1 < (l0_4.length : Int)) = true := decide_eq_true c9
      clear c9
      by_cases c10 : x4_1.length < 17592186044416
      ·rw [if_pos c10] at H
       have LMc10 := a_ c10
       clear c10
       obtain ⟨y123, hy123⟩ : ∃ y_ : List Int, y_ = (x4_1 ++ [(rd_T37 l0_4 x13_1).f2]) := ⟨_, rfl⟩
       replace H : (slip_whole.l0 k1 y123 l0_4 (l0_4.length : Int) (wrap64 (x13_1 + 1))) = some (r1, r2) := by first | (rw [hy123]; with_reducible exact H) | (have H2_ := (Option.bind_some _ _).symm.trans H; rw [hy123]; with_reducible exact H2_) | (have H2_ := (Option.bind_some _ _).symm.trans H; with_reducible exact H2_) | with_reducible exact H | (rw [hy123]; exact H) | exact H
       have Ny123 := a_ hy123
       clear hy123
       have H' := a_ H
       clear H
       have p121 : 0 ≤ (x13_1 : Int) := of_decide_eq_true z79_
       have q121 : x13_1 < (l0_4.length : Int) := of_decide_eq_true z79_
       obtain ⟨ad121, e121, hx121_0, hx121_1, hx121_2⟩ := at_T37 HR0_4.out x13_1 p121 q121
       cases e121
       replace hx121_0 := (HB.out.cell (World.block_lt_of_cell? w _ hx121_0)).trans hx121_0
       replace hx121_1 := (HB.out.cell (World.block_lt_of_cell? w _ hx121_1)).trans hx121_1
       replace hx121_2 := (HB.out.cell (World.block_lt_of_cell? w _ hx121_2)).trans hx121_2
       replace p121 := eq_true p121
       replace q121 := eq_true q121
       go_wp2_with (first | ((with_reducible refine gate_dst (N := 6) rfl ?_); refine box_event ?hg (N := 6) ?hd (cs := #[.int .u64 0, .string (⟨#[]⟩ : ByteArray), .int .i64 0]) (t := 37) ?hr ?_; (case hd => rfl); (case hg => rfl); (case hr => first | (go_simp; done) | (go_simp; rfl)); intro gb122 hg w11 hbox hb; have n0_ := a_ (Kd.R_below z53_ hb); have n1_ := a_ (blk_below (g := gb117) (o := .cells #[.string a0_0, .string a0_1, .int .u64 a0_2, .int .i64 a0_3, .slice (some ad121) l0_4.length c0_4, .int .i64 a0_5] 25 (0, 0)) z61_ hb); have n2_ := a_ (below_step z33_ hb); have n3_ := a_ (hbox); have n4_ := a_ ((by rw [hg]; exact (below_size z33_) : w.heap.size ≤ gb122)); have n5_ := a_ ((by rw [hg]; exact (below_size z33_) : w.heap.size ≤ gb122)); have n6_ := a_ ((by rw [hg]; exact Nat.ne_of_lt (blk_lt (g := gb117) (o := .cells #[.string a0_0, .string a0_1, .int .u64 a0_2, .int .i64 a0_3, .slice (some ad121) l0_4.length c0_4, .int .i64 a0_5] 25 (0, 0)) z61_) : gb117 ≠ gb122)); have n7_ := a_ ((by rw [hg]; exact Nat.ne_of_gt (blk_lt (g := gb117) (o := .cells #[.string a0_0, .string a0_1, .int .u64 a0_2, .int .i64 a0_3, .slice (some ad121) l0_4.length c0_4, .int .i64 a0_5] 25 (0, 0)) z61_) : gb122 ≠ gb117)); clear HO_4; clear BK117; clear HB; have HO_4 := n0_; have BK117 := n1_; have HB := n2_; have BK122 := n3_; have GW122 := n4_; have GE122 := n5_; have NB117_122 := n6_; have NB122_117 := n7_; clear n0_ n1_ n2_ n3_ n4_ n5_ n6_ n7_; clear hb hbox hg; have hnb12 := NB122_117.out; have hnc12 := NB117_122.out; have hcz13_0 : w11.cell? ⟨gb122, 0, none⟩ = some (.int .u64 0) := (blk_cell BK122.out 0).trans rfl; have hcz13_1 : w11.cell? ⟨gb122, 1, none⟩ = some (.string (⟨#[]⟩ : ByteArray)) := (blk_cell BK122.out 1).trans rfl; have hcz13_2 : w11.cell? ⟨gb122, 2, none⟩ = some (.int .i64 0) := (blk_cell BK122.out 2).trans rfl; have hfz13_0 := blk_frozen BK122.out 0; have hfz13_1 := blk_frozen BK122.out 1; have hfz13_2 := blk_frozen BK122.out 2) | ((with_reducible refine gate_builtin (b := .append) (xs := #[.tmp 17, .tmp 20]) rfl ?_); at_builtin; refine Kd.R_append (Kd.int .i64) (w0 := w) w.heap.size rfl (.tmp 17) (.tmp 20) 83 2 (.int .i64 0) 8 rfl Tryz.underlying83 info2 rfl (by decide) (by omega) u4 x4_1 ((rd_T37 l0_4 x13_1).f2) [.int .i64 ((rd_T37 l0_4 x13_1).f2)] (fun _ => True) (fun _ => False) rfl (by first | (go_simp; done) | (go_simp; rfl)) ?aP (fun _ hk => hk.elim) ?aF ?aO ?aB ?aS ?aL ?_; (case aP => exact rfl); (case aB => exact z19_); (case aF => exact (fun _ _ => trivial)); (case aO => exact (by (with_reducible repeat (first | apply Kd.R_alloc | apply Kd.R_drewN | apply Kd.R_drew)); exact Kd.R_mono (Kd.R_far (p := ⟨gb122, 2, none⟩) (Kd.R_far (p := ⟨gb122, 1, none⟩) (Kd.R_far (p := ⟨gb122, 0, none⟩) (Kd.R_types HO_4.out BK122.out (by decide)) (fun _ hk => hk.2) (.int .u64 ((rd_T37 l0_4 x13_1).f0))) (fun _ hk => hk.2) (.string ((rd_T37 l0_4 x13_1).f1))) (fun _ hk => hk.2) (.int .i64 ((rd_T37 l0_4 x13_1).f2))) (fun _ hk => trivial))); (case aS => exact (below_size z19_)); (case aL => have := LMc10.out; omega); intro v124 w14 ho hb hg hat; rw [← Ny123.out] at ho; have n0_ := a_ (blk_grown (g := gb117) (o := .cells #[.string a0_0, .string a0_1, .int .u64 a0_2, .int .i64 a0_3, .slice (some ad121) l0_4.length c0_4, .int .i64 a0_5] 25 (0, 0)) (by (with_reducible repeat (first | refine kN_ ?_ _ | refine kD_ ?_ | refine kA_ ?_ _)); refine blk_far ?_ NB117_122.out _; (with_reducible repeat (first | refine kN_ ?_ _ | refine kD_ ?_ | refine kA_ ?_ _)); refine blk_far ?_ NB117_122.out _; (with_reducible repeat (first | refine kN_ ?_ _ | refine kD_ ?_ | refine kA_ ?_ _)); refine blk_far ?_ NB117_122.out _; (with_reducible repeat (first | refine kN_ ?_ _ | refine kD_ ?_ | refine kA_ ?_ _)); exact BK117.out) hg (Kd.R_ne HO_4.out BK117.out (by decide))); have n1_ := a_ (blk_grown (g := gb122) (o := .cells #[.int .u64 ((rd_T37 l0_4 x13_1).f0), .string ((rd_T37 l0_4 x13_1).f1), .int .i64 ((rd_T37 l0_4 x13_1).f2)] 37 (0, 0)) (by (with_reducible repeat (first | refine kN_ ?_ _ | refine kD_ ?_ | refine kA_ ?_ _)); refine blk_put (cs := #[.int .u64 ((rd_T37 l0_4 x13_1).f0), .string ((rd_T37 l0_4 x13_1).f1), .int .i64 0]) ?_ 2 _ rfl; (with_reducible repeat (first | refine kN_ ?_ _ | refine kD_ ?_ | refine kA_ ?_ _)); refine blk_put (cs := #[.int .u64 ((rd_T37 l0_4 x13_1).f0), .string (⟨#[]⟩ : ByteArray), .int .i64 0]) ?_ 1 _ rfl; (with_reducible repeat (first | refine kN_ ?_ _ | refine kD_ ?_ | refine kA_ ?_ _)); refine blk_put (cs := #[.int .u64 0, .string (⟨#[]⟩ : ByteArray), .int .i64 0]) ?_ 0 _ rfl; (with_reducible repeat (first | refine kN_ ?_ _ | refine kD_ ?_ | refine kA_ ?_ _)); exact BK122.out) hg (Kd.R_ne HO_4.out BK122.out (by decide))); have n2_ := a_ (hb); have n3_ := a_ (ho); clear BK117; clear BK122; clear HB; clear HO_4; have BK117 := n0_; have BK122 := n1_; have HB := n2_; have HO125 := n3_; clear n0_ n1_ n2_ n3_; clear ho hb hg hat))
       go_roundg k1
       case measure => have := HK1.out; omega
       case rel => exact ⟨(y123), (wrap64 (x13_1 + 1)), z80_, H', ⟨z84_⟩, ⟨by (with_reducible repeat (first | apply Kd.R_alloc | apply Kd.R_drewN | apply Kd.R_drew)); exact HO125.out⟩, ⟨z61_⟩, ⟨z19_⟩⟩
      ·rw [if_neg c10] at H
       exact absurd H (by simp)
     ·rw [if_neg c9] at H
      exact absurd H (by simp)
    ·rw [if_neg c8] at H
     exact absurd H (by simp)
   ·rw [if_neg c7] at H
    have c7b0 : decide (x13_1 < (l0_4.length : Int)) = false := decide_eq_false c7
    clear c7
    replace H := Option.bind_eq_some_iff.mp H
    obtain ⟨⟨t126, t127⟩, A150, H⟩ := H
    replace H : (some (t126, t127)) = some (r1, r2) := H
    have A15 := a_ A150
    clear A150
    simp only [Option.some.injEq, Prod.mk.injEq] at H
    obtain ⟨rfl, rfl⟩ := H
    obtain ⟨Ao16, co16, eo16⟩ := Kd.R_slice HO_4.out
    subst eo16
    go_wp2_with (first | ((with_reducible refine gate_callee (f := 52) rfl ?_); refine goesL_ (some 24) rfl rfl Tryz.func52 z85_ rfl #[.slice Ao16 x4_1.length co16] rfl z31_ ?_; (with_reducible refine (coin_Sum.calls _ _ x4_1 t126 t127 _ ?side1 ?side2 ?side3 A15.out).mono ?_); (case side1 => exact Glob.below HG.out z33_); (case side2 => repeat (first | exact (Kd.R_reads' HO_4.out).2.2 | (with_reducible refine Kd.C_alloc ?_ _) | (with_reducible refine Kd.C_drewN ?_ _) | (with_reducible refine Kd.C_drew ?_))); (case side3 => exact (Kd.R_reads' HO_4.out).2.1); rintro e w17 ⟨rfl, hb⟩; refine ⟨_, rfl, ?_⟩; have n0_ := a_ (Kd.R_below z53_ hb); have n1_ := a_ (blk_below (g := gb117) (o := .cells #[.string a0_0, .string a0_1, .int .u64 a0_2, .int .i64 a0_3, .slice A0_4 l0_4.length c0_4, .int .i64 a0_5] 25 (0, 0)) z61_ hb); have n2_ := a_ (below_step z33_ hb); clear HO_4; clear BK117; clear HB; have HO_4 := n0_; have BK117 := n1_; have HB := n2_; clear n0_ n1_ n2_; (try clear hb); (try clear hb2); (try clear hk); (try clear hi)))
    go_ret2
    exact ⟨z76_, z33_⟩

/-! ### slip_Check: function 11 -/
mutual
def slip_Check.j0 : Nat → Bool → ByteArray → ByteArray → Int → Int → List (S37) → Int → Option (Int)
 | 0, _, _, _, _, _, _, _ => none
 | k + 1, x37, x129000, x129001, x129002, x129003, x129004, x129005 => if x37 = true then (some 190) else (slip_Check.l0 k x129004 (x129004.length : Int) 0)
def slip_Check.l0 : Nat → List (S37) → Int → Int → Option (Int)
 | 0, _, _, _ => none
 | k + 1, x39, x40, x41 => if x41 < x40 then (if 0 ≤ x41 then (if x41 < (x39.length : Int) then ((label_Word.f ((rd_T37 x39 x41).f1)).bind fun t135 => (if t135 = true then (if ((rd_T37 x39 x41).f2) = 0 then (some 190) else (slip_Check.l0 k x39 x40 (wrap64 (x41 + 1)))) else (some 190))) else (none)) else (none)) else (some 0)
end
def slip_Check.f (k : Nat) (a0_0 : ByteArray) (a0_1 : ByteArray) (a0_2 : Int) (a0_3 : Int) (l0_4 : List (S37)) (a0_5 : Int) : Option (Int) := (slip_whole.f k a0_0 a0_1 a0_2 a0_3 l0_4 a0_5).bind fun bt129 => ((label_Who.f a0_0).bind fun t131 => (if t131 = true then ((label_Asset.f a0_1).bind fun t132 => (if t132 = true then (if (l0_4.length : Int) > 1000 then (slip_Check.j0 k true a0_0 a0_1 a0_2 a0_3 l0_4 a0_5) else (if bt129.2 = 0 then (slip_Check.j0 k (bt129.1 != a0_5) a0_0 a0_1 a0_2 a0_3 l0_4 a0_5) else (slip_Check.j0 k true a0_0 a0_1 a0_2 a0_3 l0_4 a0_5))) else (slip_Check.j0 k true a0_0 a0_1 a0_2 a0_3 l0_4 a0_5))) else (slip_Check.j0 k true a0_0 a0_1 a0_2 a0_3 l0_4 a0_5)))
theorem slip_Check.mono_l : ∀ k, (∀ y0 y1 y2 y3 y4 y5 y6, LeO (slip_Check.j0 k y0 y1 y2 y3 y4 y5 y6) (slip_Check.j0 (k + 1) y0 y1 y2 y3 y4 y5 y6)) ∧ (∀ y0 y1 y2, LeO (slip_Check.l0 k y0 y1 y2) (slip_Check.l0 (k + 1) y0 y1 y2))
 | 0 => ⟨fun _ _ _ _ _ _ _ r h => by simp [slip_Check.j0] at h, fun _ _ _ r h => by simp [slip_Check.l0] at h⟩
 | k + 1 => by
  obtain ⟨ih0, ih1⟩ := slip_Check.mono_l k
  refine ⟨?_, ?_⟩
  ·intro y0 y1 y2 y3 y4 y5 y6
   unfold slip_Check.j0
   repeat' first
   | (with_reducible exact ih0 _ _ _ _ _ _ _)
   | (with_reducible exact ih1 _ _ _)
   | (with_reducible exact slip_whole.mono _ _ _ _ _ _ _)
   | (with_reducible first | exact LeO.refl _ | exact LeO.none _ | refine LeO.ite ?_ ?_ | refine LeO.bind ?_ fun _ => ?_)
   | exact ih0 _ _ _ _ _ _ _
   | exact ih1 _ _ _
   | exact slip_whole.mono _ _ _ _ _ _ _
  ·intro y0 y1 y2
   unfold slip_Check.l0
   repeat' first
   | (with_reducible exact ih0 _ _ _ _ _ _ _)
   | (with_reducible exact ih1 _ _ _)
   | (with_reducible exact slip_whole.mono _ _ _ _ _ _ _)
   | (with_reducible first | exact LeO.refl _ | exact LeO.none _ | refine LeO.ite ?_ ?_ | refine LeO.bind ?_ fun _ => ?_)
   | exact ih0 _ _ _ _ _ _ _
   | exact ih1 _ _ _
   | exact slip_whole.mono _ _ _ _ _ _ _
theorem slip_Check.mono : ∀ a0 a1 a2 a3 a4 a5 k, LeO (slip_Check.f k a0 a1 a2 a3 a4 a5) (slip_Check.f (k + 1) a0 a1 a2 a3 a4 a5) := by
 intro a0 a1 a2 a3 a4 a5 k
 obtain ⟨ih0, ih1⟩ := slip_Check.mono_l k
 unfold slip_Check.f
 repeat' first
   | (with_reducible exact ih0 _ _ _ _ _ _ _)
   | (with_reducible exact ih1 _ _ _)
   | (with_reducible exact slip_whole.mono _ _ _ _ _ _ _)
   | (with_reducible first | exact LeO.refl _ | exact LeO.none _ | refine LeO.ite ?_ ?_ | refine LeO.bind ?_ fun _ => ?_)
   | exact ih0 _ _ _ _ _ _ _
   | exact ih1 _ _ _
   | exact slip_whole.mono _ _ _ _ _ _ _
set_option maxHeartbeats 8000000 in
set_option maxRecDepth 100000 in
theorem slip_Check.calls (k : Nat) (a0_0 : ByteArray) (a0_1 : ByteArray) (a0_2 : Int) (a0_3 : Int) (A0_4 : Option Addr) (c0_4 : Nat) (l0_4 : List (S37)) (a0_5 : Int) (r : Int) (w : World) (hG : Glob w) (hr0_4 : Kd.C k37 w A0_4 l0_4.length l0_4) (hc0_4 : l0_4.length ≤ c0_4) (h : slip_Check.f k a0_0 a0_1 a0_2 a0_3 l0_4 a0_5 = some r) :
  Calls Tryz.prog 11 #[.agg #[.string a0_0, .string a0_1, .int .u64 a0_2, .int .i64 a0_3, .slice A0_4 l0_4.length c0_4, .int .i64 a0_5]] w fun e w' => e = .returned (.int .i64 r) ∧ Below w.heap.size w w' := by
 have hu25 := Tryz.underlying25
 have hu37 := Tryz.underlying37
 have HG := a_ hG
 clear hG
 have HR0_4 := a_ hr0_4
 have HC0_4 := a_ hc0_4
 clear hr0_4 hc0_4
 have HB := a_ (Below.refl w.heap.size w)
 have H : ((slip_whole.f k a0_0 a0_1 a0_2 a0_3 l0_4 a0_5).bind fun bt129 => ((label_Who.f a0_0).bind fun t131 => (if t131 = true then ((label_Asset.f a0_1).bind fun t132 => (if t132 = true then (if (l0_4.length : Int) > 1000 then (slip_Check.j0 k true a0_0 a0_1 a0_2 a0_3 l0_4 a0_5) else (if bt129.2 = 0 then (slip_Check.j0 k (bt129.1 != a0_5) a0_0 a0_1 a0_2 a0_3 l0_4 a0_5) else (slip_Check.j0 k true a0_0 a0_1 a0_2 a0_3 l0_4 a0_5))) else (slip_Check.j0 k true a0_0 a0_1 a0_2 a0_3 l0_4 a0_5))) else (slip_Check.j0 k true a0_0 a0_1 a0_2 a0_3 l0_4 a0_5)))) = some r := h
 clear h
 replace H := Option.bind_eq_some_iff.mp H
 obtain ⟨⟨t129, t130⟩, A20, H⟩ := H
 replace H : ((label_Who.f a0_0).bind fun t131 => (if t131 = true then ((label_Asset.f a0_1).bind fun t132 => (if t132 = true then (if (l0_4.length : Int) > 1000 then (slip_Check.j0 k true a0_0 a0_1 a0_2 a0_3 l0_4 a0_5) else (if t130 = 0 then (slip_Check.j0 k (t129 != a0_5) a0_0 a0_1 a0_2 a0_3 l0_4 a0_5) else (slip_Check.j0 k true a0_0 a0_1 a0_2 a0_3 l0_4 a0_5))) else (slip_Check.j0 k true a0_0 a0_1 a0_2 a0_3 l0_4 a0_5))) else (slip_Check.j0 k true a0_0 a0_1 a0_2 a0_3 l0_4 a0_5))) = some r := H
 have A2 := a_ A20
 clear A20
 have HC3 := a_ H
 clear H
 go_enter Tryz.func11, Tryz.ntmps11
 go_upto_region 2 with (first | ((with_reducible refine gate_dst (N := 1) rfl ?_); (try (refine gate_guard (by rfl) ?_; dsimp only)); refine box_event ?hg (N := 1) ?hd (cs := #[.string a0_0, .string a0_1, .int .u64 a0_2, .int .i64 a0_3, .slice A0_4 l0_4.length c0_4, .int .i64 a0_5]) (t := 25) ?hr ?_; (case hd => rfl); (case hg => rfl); (case hr => first | (go_simp; done) | (go_simp; rfl)); intro gb128 hg w4 hbox hb; have n0_ := a_ (below_step z45_ hb); have n1_ := a_ (hbox); have n2_ := a_ ((z32_ : w.heap.size ≤ gb128)); have n3_ := a_ ((z32_ : w.heap.size ≤ gb128)); clear HB; have HB := n0_; have BK128 := n1_; have GW128 := n2_; have GE128 := n3_; clear n0_ n1_ n2_ n3_; clear hb hbox hg; have hcz5_0 : w4.cell? ⟨gb128, 0, none⟩ = some (.string a0_0) := (blk_cell BK128.out 0).trans rfl; have hcz5_1 : w4.cell? ⟨gb128, 1, none⟩ = some (.string a0_1) := (blk_cell BK128.out 1).trans rfl; have hcz5_2 : w4.cell? ⟨gb128, 2, none⟩ = some (.int .u64 a0_2) := (blk_cell BK128.out 2).trans rfl; have hcz5_3 : w4.cell? ⟨gb128, 3, none⟩ = some (.int .i64 a0_3) := (blk_cell BK128.out 3).trans rfl; have hcz5_4 : w4.cell? ⟨gb128, 4, none⟩ = some (.slice A0_4 l0_4.length c0_4) := (blk_cell BK128.out 4).trans rfl; have hcz5_5 : w4.cell? ⟨gb128, 5, none⟩ = some (.int .i64 a0_5) := (blk_cell BK128.out 5).trans rfl; have hfz5_0 := blk_frozen BK128.out 0; have hfz5_1 := blk_frozen BK128.out 1; have hfz5_2 := blk_frozen BK128.out 2; have hfz5_3 := blk_frozen BK128.out 3; have hfz5_4 := blk_frozen BK128.out 4; have hfz5_5 := blk_frozen BK128.out 5) | ((with_reducible refine gate_callee (f := 32) rfl ?_); refine goesL_ (some 9) rfl rfl Tryz.func32 z85_ rfl #[.agg #[.string a0_0, .string a0_1, .int .u64 a0_2, .int .i64 a0_3, .slice A0_4 l0_4.length c0_4, .int .i64 a0_5]] rfl z31_ ?_; (with_reducible refine (slip_whole.calls k a0_0 a0_1 a0_2 a0_3 _ _ l0_4 a0_5 t129 t130 _ ?side1 ?side2 ?side3 A2.out).mono ?_); (case side1 => exact Glob.below HG.out z34_); (case side2 => repeat (first | exact (Kd.C_below HR0_4.out HB.out) | (with_reducible refine Kd.C_alloc ?_ _) | (with_reducible refine Kd.C_drewN ?_ _) | (with_reducible refine Kd.C_drew ?_))); (case side3 => exact HC0_4.out); rintro e w6 ⟨rfl, hb⟩; refine ⟨_, rfl, ?_⟩; have n0_ := a_ (blk_below (g := gb128) (o := .cells #[.string a0_0, .string a0_1, .int .u64 a0_2, .int .i64 a0_3, .slice A0_4 l0_4.length c0_4, .int .i64 a0_5] 25 (0, 0)) z62_ hb); have n1_ := a_ (below_step z34_ hb); clear BK128; clear HB; have BK128 := n0_; have HB := n1_; clear n0_ n1_; (try clear hb); (try clear hb2); (try clear hk); (try clear hi)))
 (try simp only [Act.put, sT_, s0_, sS_])
 go_cut [37] (fun v37 wc => ∃ (kq : Nat) (x37_2 : Bool), v37 = .bool x37_2 ∧ Aside0 (slip_Check.j0 kq x37_2 a0_0 a0_1 a0_2 a0_3 l0_4 a0_5 = some r) ∧ Aside0 (kq ≤ k) ∧ Aside0 (wc.heap[gb128]? = some (.cells #[.string a0_0, .string a0_1, .int .u64 a0_2, .int .i64 a0_3, (.slice A0_4 l0_4.length c0_4), .int .i64 a0_5] 25 (0, 0))) ∧ Aside0 (Below w.heap.size w wc))
 case first =>
  have H := HC3.out
  clear HC3
  replace H := Option.bind_eq_some_iff.mp H
  obtain ⟨t131, A70, H⟩ := H
  replace H : (if t131 = true then ((label_Asset.f a0_1).bind fun t132 => (if t132 = true then (if (l0_4.length : Int) > 1000 then (slip_Check.j0 k true a0_0 a0_1 a0_2 a0_3 l0_4 a0_5) else (if t130 = 0 then (slip_Check.j0 k (t129 != a0_5) a0_0 a0_1 a0_2 a0_3 l0_4 a0_5) else (slip_Check.j0 k true a0_0 a0_1 a0_2 a0_3 l0_4 a0_5))) else (slip_Check.j0 k true a0_0 a0_1 a0_2 a0_3 l0_4 a0_5))) else (slip_Check.j0 k true a0_0 a0_1 a0_2 a0_3 l0_4 a0_5)) = some r := H
  have A7 := a_ A70
  clear A70
  by_cases c8 : t131 = true
  ·subst c8
   have H1 : ((label_Asset.f a0_1).bind fun t132 => (if t132 = true then (if (l0_4.length : Int) > 1000 then (slip_Check.j0 k true a0_0 a0_1 a0_2 a0_3 l0_4 a0_5) else (if t130 = 0 then (slip_Check.j0 k (t129 != a0_5) a0_0 a0_1 a0_2 a0_3 l0_4 a0_5) else (slip_Check.j0 k true a0_0 a0_1 a0_2 a0_3 l0_4 a0_5))) else (slip_Check.j0 k true a0_0 a0_1 a0_2 a0_3 l0_4 a0_5))) = some r := by rw [if_pos rfl] at H; exact H
   clear H
   have H := H1
   clear H1
   replace H := Option.bind_eq_some_iff.mp H
   obtain ⟨t132, A90, H⟩ := H
   replace H : (if t132 = true then (if (l0_4.length : Int) > 1000 then (slip_Check.j0 k true a0_0 a0_1 a0_2 a0_3 l0_4 a0_5) else (if t130 = 0 then (slip_Check.j0 k (t129 != a0_5) a0_0 a0_1 a0_2 a0_3 l0_4 a0_5) else (slip_Check.j0 k true a0_0 a0_1 a0_2 a0_3 l0_4 a0_5))) else (slip_Check.j0 k true a0_0 a0_1 a0_2 a0_3 l0_4 a0_5)) = some r := H
   have A9 := a_ A90
   clear A90
   by_cases c10 : t132 = true
   ·subst c10
    have H1 : (if (l0_4.length : Int) > 1000 then (slip_Check.j0 k true a0_0 a0_1 a0_2 a0_3 l0_4 a0_5) else (if t130 = 0 then (slip_Check.j0 k (t129 != a0_5) a0_0 a0_1 a0_2 a0_3 l0_4 a0_5) else (slip_Check.j0 k true a0_0 a0_1 a0_2 a0_3 l0_4 a0_5))) = some r := by rw [if_pos rfl] at H; exact H
    clear H
    have H := H1
    clear H1
    by_cases c11 : (l0_4.length : Int) > 1000
    ·rw [if_pos c11] at H
     have c11b0 : decide (1000 < (l0_4.length : Int)) = true := decide_eq_true c11
     have c11b1 : decide (1000 < l0_4.length) = true := decide_eq_true (by omega)
     clear c11
     (first | rw [c11b0] | (simp only [i64_w, i32_w]; rw [c11b0]) | skip)
     have H' := a_ H
     clear H
     have hcz12_0 : w6.cell? ⟨gb128, 0, none⟩ = some (.string a0_0) := (blk_cell BK128.out 0).trans rfl
     have hcz12_1 : w6.cell? ⟨gb128, 1, none⟩ = some (.string a0_1) := (blk_cell BK128.out 1).trans rfl
     have hcz12_2 : w6.cell? ⟨gb128, 2, none⟩ = some (.int .u64 a0_2) := (blk_cell BK128.out 2).trans rfl
     have hcz12_3 : w6.cell? ⟨gb128, 3, none⟩ = some (.int .i64 a0_3) := (blk_cell BK128.out 3).trans rfl
     have hcz12_4 : w6.cell? ⟨gb128, 4, none⟩ = some (.slice A0_4 l0_4.length c0_4) := (blk_cell BK128.out 4).trans rfl
     have hcz12_5 : w6.cell? ⟨gb128, 5, none⟩ = some (.int .i64 a0_5) := (blk_cell BK128.out 5).trans rfl
     have hfz12_0 := blk_frozen BK128.out 0
     have hfz12_1 := blk_frozen BK128.out 1
     have hfz12_2 := blk_frozen BK128.out 2
     have hfz12_3 := blk_frozen BK128.out 3
     have hfz12_4 := blk_frozen BK128.out 4
     have hfz12_5 := blk_frozen BK128.out 5
     go_wp2_with (first | ((with_reducible refine gate_callee (f := 33) rfl ?_); refine goesL_ (some 14) rfl rfl Tryz.func33 z85_ rfl #[.string a0_0] rfl z31_ ?_; (with_reducible refine (label_Who.calls a0_0 true _ ?side1 A7.out).mono ?_); (case side1 => exact Glob.below HG.out z34_); rintro e w13 ⟨rfl, hb⟩; refine ⟨_, rfl, ?_⟩; have n0_ := a_ (blk_below (g := gb128) (o := .cells #[.string a0_0, .string a0_1, .int .u64 a0_2, .int .i64 a0_3, .slice A0_4 l0_4.length c0_4, .int .i64 a0_5] 25 (0, 0)) z62_ hb); have n1_ := a_ (below_step z34_ hb); clear BK128; clear HB; have BK128 := n0_; have HB := n1_; clear n0_ n1_; (try clear hb); (try clear hb2); (try clear hk); (try clear hi); have hcz14_0 : w13.cell? ⟨gb128, 0, none⟩ = some (.string a0_0) := (blk_cell BK128.out 0).trans rfl; have hcz14_1 : w13.cell? ⟨gb128, 1, none⟩ = some (.string a0_1) := (blk_cell BK128.out 1).trans rfl; have hcz14_2 : w13.cell? ⟨gb128, 2, none⟩ = some (.int .u64 a0_2) := (blk_cell BK128.out 2).trans rfl; have hcz14_3 : w13.cell? ⟨gb128, 3, none⟩ = some (.int .i64 a0_3) := (blk_cell BK128.out 3).trans rfl; have hcz14_4 : w13.cell? ⟨gb128, 4, none⟩ = some (.slice A0_4 l0_4.length c0_4) := (blk_cell BK128.out 4).trans rfl; have hcz14_5 : w13.cell? ⟨gb128, 5, none⟩ = some (.int .i64 a0_5) := (blk_cell BK128.out 5).trans rfl; have hfz14_0 := blk_frozen BK128.out 0; have hfz14_1 := blk_frozen BK128.out 1; have hfz14_2 := blk_frozen BK128.out 2; have hfz14_3 := blk_frozen BK128.out 3; have hfz14_4 := blk_frozen BK128.out 4; have hfz14_5 := blk_frozen BK128.out 5) | (go_at_call 34; (with_reducible refine (label_Asset.calls a0_1 true _ ?side1 A9.out).mono ?_); (case side1 => exact Glob.below HG.out z34_); rintro e w15 ⟨rfl, hb⟩; have n0_ := a_ (blk_below (g := gb128) (o := .cells #[.string a0_0, .string a0_1, .int .u64 a0_2, .int .i64 a0_3, .slice A0_4 l0_4.length c0_4, .int .i64 a0_5] 25 (0, 0)) z62_ hb); have n1_ := a_ (below_step z34_ hb); clear BK128; clear HB; have BK128 := n0_; have HB := n1_; clear n0_ n1_; (try clear hb); (try clear hb2); (try clear hk); (try clear hi); have hcz16_0 : w15.cell? ⟨gb128, 0, none⟩ = some (.string a0_0) := (blk_cell BK128.out 0).trans rfl; have hcz16_1 : w15.cell? ⟨gb128, 1, none⟩ = some (.string a0_1) := (blk_cell BK128.out 1).trans rfl; have hcz16_2 : w15.cell? ⟨gb128, 2, none⟩ = some (.int .u64 a0_2) := (blk_cell BK128.out 2).trans rfl; have hcz16_3 : w15.cell? ⟨gb128, 3, none⟩ = some (.int .i64 a0_3) := (blk_cell BK128.out 3).trans rfl; have hcz16_4 : w15.cell? ⟨gb128, 4, none⟩ = some (.slice A0_4 l0_4.length c0_4) := (blk_cell BK128.out 4).trans rfl; have hcz16_5 : w15.cell? ⟨gb128, 5, none⟩ = some (.int .i64 a0_5) := (blk_cell BK128.out 5).trans rfl; have hfz16_0 := blk_frozen BK128.out 0; have hfz16_1 := blk_frozen BK128.out 1; have hfz16_2 := blk_frozen BK128.out 2; have hfz16_3 := blk_frozen BK128.out 3; have hfz16_4 := blk_frozen BK128.out 4; have hfz16_5 := blk_frozen BK128.out 5))
     go_meet
     case rel => exact ⟨_, (true), z80_, H', ⟨z83_⟩, ⟨z62_⟩, ⟨z34_⟩⟩
    ·rw [if_neg c11] at H
     have c11b0 : decide (1000 < (l0_4.length : Int)) = false := decide_eq_false c11
     have c11b1 : decide (1000 < l0_4.length) = false := decide_eq_false (by omega)
     clear c11
     (first | rw [c11b0] | (simp only [i64_w, i32_w]; rw [c11b0]) | skip)
     by_cases c17 : t130 = 0
     ·rw [if_pos c17] at H
      have c17b0 : (t130 == 0) = true := beq_iff_eq.mpr c17
      have c17b1 : (t130 != 0) = false := bne_eq_false_iff_eq.mpr c17
      clear c17
      have H' := a_ H
      clear H
      have hcz18_0 : w6.cell? ⟨gb128, 0, none⟩ = some (.string a0_0) := (blk_cell BK128.out 0).trans rfl
      have hcz18_1 : w6.cell? ⟨gb128, 1, none⟩ = some (.string a0_1) := (blk_cell BK128.out 1).trans rfl
      have hcz18_2 : w6.cell? ⟨gb128, 2, none⟩ = some (.int .u64 a0_2) := (blk_cell BK128.out 2).trans rfl
      have hcz18_3 : w6.cell? ⟨gb128, 3, none⟩ = some (.int .i64 a0_3) := (blk_cell BK128.out 3).trans rfl
      have hcz18_4 : w6.cell? ⟨gb128, 4, none⟩ = some (.slice A0_4 l0_4.length c0_4) := (blk_cell BK128.out 4).trans rfl
      have hcz18_5 : w6.cell? ⟨gb128, 5, none⟩ = some (.int .i64 a0_5) := (blk_cell BK128.out 5).trans rfl
      have hfz18_0 := blk_frozen BK128.out 0
      have hfz18_1 := blk_frozen BK128.out 1
      have hfz18_2 := blk_frozen BK128.out 2
      have hfz18_3 := blk_frozen BK128.out 3
      have hfz18_4 := blk_frozen BK128.out 4
      have hfz18_5 := blk_frozen BK128.out 5
      go_wp2_with (first | ((with_reducible refine gate_callee (f := 33) rfl ?_); refine goesL_ (some 14) rfl rfl Tryz.func33 z85_ rfl #[.string a0_0] rfl z31_ ?_; (with_reducible refine (label_Who.calls a0_0 true _ ?side1 A7.out).mono ?_); (case side1 => exact Glob.below HG.out z34_); rintro e w19 ⟨rfl, hb⟩; refine ⟨_, rfl, ?_⟩; have n0_ := a_ (blk_below (g := gb128) (o := .cells #[.string a0_0, .string a0_1, .int .u64 a0_2, .int .i64 a0_3, .slice A0_4 l0_4.length c0_4, .int .i64 a0_5] 25 (0, 0)) z62_ hb); have n1_ := a_ (below_step z34_ hb); clear BK128; clear HB; have BK128 := n0_; have HB := n1_; clear n0_ n1_; (try clear hb); (try clear hb2); (try clear hk); (try clear hi); have hcz20_0 : w19.cell? ⟨gb128, 0, none⟩ = some (.string a0_0) := (blk_cell BK128.out 0).trans rfl; have hcz20_1 : w19.cell? ⟨gb128, 1, none⟩ = some (.string a0_1) := (blk_cell BK128.out 1).trans rfl; have hcz20_2 : w19.cell? ⟨gb128, 2, none⟩ = some (.int .u64 a0_2) := (blk_cell BK128.out 2).trans rfl; have hcz20_3 : w19.cell? ⟨gb128, 3, none⟩ = some (.int .i64 a0_3) := (blk_cell BK128.out 3).trans rfl; have hcz20_4 : w19.cell? ⟨gb128, 4, none⟩ = some (.slice A0_4 l0_4.length c0_4) := (blk_cell BK128.out 4).trans rfl; have hcz20_5 : w19.cell? ⟨gb128, 5, none⟩ = some (.int .i64 a0_5) := (blk_cell BK128.out 5).trans rfl; have hfz20_0 := blk_frozen BK128.out 0; have hfz20_1 := blk_frozen BK128.out 1; have hfz20_2 := blk_frozen BK128.out 2; have hfz20_3 := blk_frozen BK128.out 3; have hfz20_4 := blk_frozen BK128.out 4; have hfz20_5 := blk_frozen BK128.out 5) | (go_at_call 34; (with_reducible refine (label_Asset.calls a0_1 true _ ?side1 A9.out).mono ?_); (case side1 => exact Glob.below HG.out z34_); rintro e w21 ⟨rfl, hb⟩; have n0_ := a_ (blk_below (g := gb128) (o := .cells #[.string a0_0, .string a0_1, .int .u64 a0_2, .int .i64 a0_3, .slice A0_4 l0_4.length c0_4, .int .i64 a0_5] 25 (0, 0)) z62_ hb); have n1_ := a_ (below_step z34_ hb); clear BK128; clear HB; have BK128 := n0_; have HB := n1_; clear n0_ n1_; (try clear hb); (try clear hb2); (try clear hk); (try clear hi); have hcz22_0 : w21.cell? ⟨gb128, 0, none⟩ = some (.string a0_0) := (blk_cell BK128.out 0).trans rfl; have hcz22_1 : w21.cell? ⟨gb128, 1, none⟩ = some (.string a0_1) := (blk_cell BK128.out 1).trans rfl; have hcz22_2 : w21.cell? ⟨gb128, 2, none⟩ = some (.int .u64 a0_2) := (blk_cell BK128.out 2).trans rfl; have hcz22_3 : w21.cell? ⟨gb128, 3, none⟩ = some (.int .i64 a0_3) := (blk_cell BK128.out 3).trans rfl; have hcz22_4 : w21.cell? ⟨gb128, 4, none⟩ = some (.slice A0_4 l0_4.length c0_4) := (blk_cell BK128.out 4).trans rfl; have hcz22_5 : w21.cell? ⟨gb128, 5, none⟩ = some (.int .i64 a0_5) := (blk_cell BK128.out 5).trans rfl; have hfz22_0 := blk_frozen BK128.out 0; have hfz22_1 := blk_frozen BK128.out 1; have hfz22_2 := blk_frozen BK128.out 2; have hfz22_3 := blk_frozen BK128.out 3; have hfz22_4 := blk_frozen BK128.out 4; have hfz22_5 := blk_frozen BK128.out 5))
      go_meet
      case rel => exact ⟨_, ((t129 != a0_5)), z80_, H', ⟨z83_⟩, ⟨z62_⟩, ⟨z34_⟩⟩
     ·rw [if_neg c17] at H
      have c17b0 : (t130 == 0) = false := beq_eq_false_iff_ne.mpr c17
      have c17b1 : (t130 != 0) = true := bne_iff_ne.mpr c17
      have H' := a_ H
      clear H
      have hcz23_0 : w6.cell? ⟨gb128, 0, none⟩ = some (.string a0_0) := (blk_cell BK128.out 0).trans rfl
      have hcz23_1 : w6.cell? ⟨gb128, 1, none⟩ = some (.string a0_1) := (blk_cell BK128.out 1).trans rfl
      have hcz23_2 : w6.cell? ⟨gb128, 2, none⟩ = some (.int .u64 a0_2) := (blk_cell BK128.out 2).trans rfl
      have hcz23_3 : w6.cell? ⟨gb128, 3, none⟩ = some (.int .i64 a0_3) := (blk_cell BK128.out 3).trans rfl
      have hcz23_4 : w6.cell? ⟨gb128, 4, none⟩ = some (.slice A0_4 l0_4.length c0_4) := (blk_cell BK128.out 4).trans rfl
      have hcz23_5 : w6.cell? ⟨gb128, 5, none⟩ = some (.int .i64 a0_5) := (blk_cell BK128.out 5).trans rfl
      have hfz23_0 := blk_frozen BK128.out 0
      have hfz23_1 := blk_frozen BK128.out 1
      have hfz23_2 := blk_frozen BK128.out 2
      have hfz23_3 := blk_frozen BK128.out 3
      have hfz23_4 := blk_frozen BK128.out 4
      have hfz23_5 := blk_frozen BK128.out 5
      go_wp2_with (first | ((with_reducible refine gate_callee (f := 33) rfl ?_); refine goesL_ (some 14) rfl rfl Tryz.func33 z85_ rfl #[.string a0_0] rfl z31_ ?_; (with_reducible refine (label_Who.calls a0_0 true _ ?side1 A7.out).mono ?_); (case side1 => exact Glob.below HG.out z34_); rintro e w24 ⟨rfl, hb⟩; refine ⟨_, rfl, ?_⟩; have n0_ := a_ (blk_below (g := gb128) (o := .cells #[.string a0_0, .string a0_1, .int .u64 a0_2, .int .i64 a0_3, .slice A0_4 l0_4.length c0_4, .int .i64 a0_5] 25 (0, 0)) z62_ hb); have n1_ := a_ (below_step z34_ hb); clear BK128; clear HB; have BK128 := n0_; have HB := n1_; clear n0_ n1_; (try clear hb); (try clear hb2); (try clear hk); (try clear hi); have hcz25_0 : w24.cell? ⟨gb128, 0, none⟩ = some (.string a0_0) := (blk_cell BK128.out 0).trans rfl; have hcz25_1 : w24.cell? ⟨gb128, 1, none⟩ = some (.string a0_1) := (blk_cell BK128.out 1).trans rfl; have hcz25_2 : w24.cell? ⟨gb128, 2, none⟩ = some (.int .u64 a0_2) := (blk_cell BK128.out 2).trans rfl; have hcz25_3 : w24.cell? ⟨gb128, 3, none⟩ = some (.int .i64 a0_3) := (blk_cell BK128.out 3).trans rfl; have hcz25_4 : w24.cell? ⟨gb128, 4, none⟩ = some (.slice A0_4 l0_4.length c0_4) := (blk_cell BK128.out 4).trans rfl; have hcz25_5 : w24.cell? ⟨gb128, 5, none⟩ = some (.int .i64 a0_5) := (blk_cell BK128.out 5).trans rfl; have hfz25_0 := blk_frozen BK128.out 0; have hfz25_1 := blk_frozen BK128.out 1; have hfz25_2 := blk_frozen BK128.out 2; have hfz25_3 := blk_frozen BK128.out 3; have hfz25_4 := blk_frozen BK128.out 4; have hfz25_5 := blk_frozen BK128.out 5) | (go_at_call 34; (with_reducible refine (label_Asset.calls a0_1 true _ ?side1 A9.out).mono ?_); (case side1 => exact Glob.below HG.out z34_); rintro e w26 ⟨rfl, hb⟩; have n0_ := a_ (blk_below (g := gb128) (o := .cells #[.string a0_0, .string a0_1, .int .u64 a0_2, .int .i64 a0_3, .slice A0_4 l0_4.length c0_4, .int .i64 a0_5] 25 (0, 0)) z62_ hb); have n1_ := a_ (below_step z34_ hb); clear BK128; clear HB; have BK128 := n0_; have HB := n1_; clear n0_ n1_; (try clear hb); (try clear hb2); (try clear hk); (try clear hi); have hcz27_0 : w26.cell? ⟨gb128, 0, none⟩ = some (.string a0_0) := (blk_cell BK128.out 0).trans rfl; have hcz27_1 : w26.cell? ⟨gb128, 1, none⟩ = some (.string a0_1) := (blk_cell BK128.out 1).trans rfl; have hcz27_2 : w26.cell? ⟨gb128, 2, none⟩ = some (.int .u64 a0_2) := (blk_cell BK128.out 2).trans rfl; have hcz27_3 : w26.cell? ⟨gb128, 3, none⟩ = some (.int .i64 a0_3) := (blk_cell BK128.out 3).trans rfl; have hcz27_4 : w26.cell? ⟨gb128, 4, none⟩ = some (.slice A0_4 l0_4.length c0_4) := (blk_cell BK128.out 4).trans rfl; have hcz27_5 : w26.cell? ⟨gb128, 5, none⟩ = some (.int .i64 a0_5) := (blk_cell BK128.out 5).trans rfl; have hfz27_0 := blk_frozen BK128.out 0; have hfz27_1 := blk_frozen BK128.out 1; have hfz27_2 := blk_frozen BK128.out 2; have hfz27_3 := blk_frozen BK128.out 3; have hfz27_4 := blk_frozen BK128.out 4; have hfz27_5 := blk_frozen BK128.out 5))
      go_meet
      case rel => exact ⟨_, (true), z80_, H', ⟨z83_⟩, ⟨z62_⟩, ⟨z34_⟩⟩
   ·replace c10 := Bool.eq_false_iff.mpr c10
    subst c10
    have H1 : (slip_Check.j0 k true a0_0 a0_1 a0_2 a0_3 l0_4 a0_5) = some r := by rw [if_neg (show ¬ (false = true) by decide)] at H; exact H
    clear H
    have H := H1
    clear H1
    have H' := a_ H
    clear H
    have hcz28_0 : w6.cell? ⟨gb128, 0, none⟩ = some (.string a0_0) := (blk_cell BK128.out 0).trans rfl
    have hcz28_1 : w6.cell? ⟨gb128, 1, none⟩ = some (.string a0_1) := (blk_cell BK128.out 1).trans rfl
    have hcz28_2 : w6.cell? ⟨gb128, 2, none⟩ = some (.int .u64 a0_2) := (blk_cell BK128.out 2).trans rfl
    have hcz28_3 : w6.cell? ⟨gb128, 3, none⟩ = some (.int .i64 a0_3) := (blk_cell BK128.out 3).trans rfl
    have hcz28_4 : w6.cell? ⟨gb128, 4, none⟩ = some (.slice A0_4 l0_4.length c0_4) := (blk_cell BK128.out 4).trans rfl
    have hcz28_5 : w6.cell? ⟨gb128, 5, none⟩ = some (.int .i64 a0_5) := (blk_cell BK128.out 5).trans rfl
    have hfz28_0 := blk_frozen BK128.out 0
    have hfz28_1 := blk_frozen BK128.out 1
    have hfz28_2 := blk_frozen BK128.out 2
    have hfz28_3 := blk_frozen BK128.out 3
    have hfz28_4 := blk_frozen BK128.out 4
    have hfz28_5 := blk_frozen BK128.out 5
    go_wp2_with (first | ((with_reducible refine gate_callee (f := 33) rfl ?_); refine goesL_ (some 14) rfl rfl Tryz.func33 z85_ rfl #[.string a0_0] rfl z31_ ?_; (with_reducible refine (label_Who.calls a0_0 true _ ?side1 A7.out).mono ?_); (case side1 => exact Glob.below HG.out z34_); rintro e w29 ⟨rfl, hb⟩; refine ⟨_, rfl, ?_⟩; have n0_ := a_ (blk_below (g := gb128) (o := .cells #[.string a0_0, .string a0_1, .int .u64 a0_2, .int .i64 a0_3, .slice A0_4 l0_4.length c0_4, .int .i64 a0_5] 25 (0, 0)) z62_ hb); have n1_ := a_ (below_step z34_ hb); clear BK128; clear HB; have BK128 := n0_; have HB := n1_; clear n0_ n1_; (try clear hb); (try clear hb2); (try clear hk); (try clear hi); have hcz30_0 : w29.cell? ⟨gb128, 0, none⟩ = some (.string a0_0) := (blk_cell BK128.out 0).trans rfl; have hcz30_1 : w29.cell? ⟨gb128, 1, none⟩ = some (.string a0_1) := (blk_cell BK128.out 1).trans rfl; have hcz30_2 : w29.cell? ⟨gb128, 2, none⟩ = some (.int .u64 a0_2) := (blk_cell BK128.out 2).trans rfl; have hcz30_3 : w29.cell? ⟨gb128, 3, none⟩ = some (.int .i64 a0_3) := (blk_cell BK128.out 3).trans rfl; have hcz30_4 : w29.cell? ⟨gb128, 4, none⟩ = some (.slice A0_4 l0_4.length c0_4) := (blk_cell BK128.out 4).trans rfl; have hcz30_5 : w29.cell? ⟨gb128, 5, none⟩ = some (.int .i64 a0_5) := (blk_cell BK128.out 5).trans rfl; have hfz30_0 := blk_frozen BK128.out 0; have hfz30_1 := blk_frozen BK128.out 1; have hfz30_2 := blk_frozen BK128.out 2; have hfz30_3 := blk_frozen BK128.out 3; have hfz30_4 := blk_frozen BK128.out 4; have hfz30_5 := blk_frozen BK128.out 5) | (go_at_call 34; (with_reducible refine (label_Asset.calls a0_1 false _ ?side1 A9.out).mono ?_); (case side1 => exact Glob.below HG.out z34_); rintro e w31 ⟨rfl, hb⟩; have n0_ := a_ (blk_below (g := gb128) (o := .cells #[.string a0_0, .string a0_1, .int .u64 a0_2, .int .i64 a0_3, .slice A0_4 l0_4.length c0_4, .int .i64 a0_5] 25 (0, 0)) z62_ hb); have n1_ := a_ (below_step z34_ hb); clear BK128; clear HB; have BK128 := n0_; have HB := n1_; clear n0_ n1_; (try clear hb); (try clear hb2); (try clear hk); (try clear hi)))
    go_meet
    case rel => exact ⟨_, (true), z80_, H', ⟨z83_⟩, ⟨z62_⟩, ⟨z34_⟩⟩
  ·replace c8 := Bool.eq_false_iff.mpr c8
   subst c8
   have H1 : (slip_Check.j0 k true a0_0 a0_1 a0_2 a0_3 l0_4 a0_5) = some r := by rw [if_neg (show ¬ (false = true) by decide)] at H; exact H
   clear H
   have H := H1
   clear H1
   have H' := a_ H
   clear H
   have hcz32_0 : w6.cell? ⟨gb128, 0, none⟩ = some (.string a0_0) := (blk_cell BK128.out 0).trans rfl
   have hcz32_1 : w6.cell? ⟨gb128, 1, none⟩ = some (.string a0_1) := (blk_cell BK128.out 1).trans rfl
   have hcz32_2 : w6.cell? ⟨gb128, 2, none⟩ = some (.int .u64 a0_2) := (blk_cell BK128.out 2).trans rfl
   have hcz32_3 : w6.cell? ⟨gb128, 3, none⟩ = some (.int .i64 a0_3) := (blk_cell BK128.out 3).trans rfl
   have hcz32_4 : w6.cell? ⟨gb128, 4, none⟩ = some (.slice A0_4 l0_4.length c0_4) := (blk_cell BK128.out 4).trans rfl
   have hcz32_5 : w6.cell? ⟨gb128, 5, none⟩ = some (.int .i64 a0_5) := (blk_cell BK128.out 5).trans rfl
   have hfz32_0 := blk_frozen BK128.out 0
   have hfz32_1 := blk_frozen BK128.out 1
   have hfz32_2 := blk_frozen BK128.out 2
   have hfz32_3 := blk_frozen BK128.out 3
   have hfz32_4 := blk_frozen BK128.out 4
   have hfz32_5 := blk_frozen BK128.out 5
   go_wp2_with (first | ((with_reducible refine gate_callee (f := 33) rfl ?_); refine goesL_ (some 14) rfl rfl Tryz.func33 z85_ rfl #[.string a0_0] rfl z31_ ?_; (with_reducible refine (label_Who.calls a0_0 false _ ?side1 A7.out).mono ?_); (case side1 => exact Glob.below HG.out z34_); rintro e w33 ⟨rfl, hb⟩; refine ⟨_, rfl, ?_⟩; have n0_ := a_ (blk_below (g := gb128) (o := .cells #[.string a0_0, .string a0_1, .int .u64 a0_2, .int .i64 a0_3, .slice A0_4 l0_4.length c0_4, .int .i64 a0_5] 25 (0, 0)) z62_ hb); have n1_ := a_ (below_step z34_ hb); clear BK128; clear HB; have BK128 := n0_; have HB := n1_; clear n0_ n1_; (try clear hb); (try clear hb2); (try clear hk); (try clear hi)))
   go_meet
   case rel => exact ⟨_, (true), z80_, H', ⟨z83_⟩, ⟨z62_⟩, ⟨z34_⟩⟩
 case rest =>
  clear HC3
  try clear c1
  try clear p2
  try clear c3
  try clear c8
  try clear c10
  try clear c11
  try clear c11b0
  try clear c11b1
  try clear c17
  try clear c17b0
  try clear c17b1
  try clear c32
  try clear c33
  try clear hcz12_0
  try clear hcz12_1
  try clear hcz12_2
  try clear hcz12_3
  try clear hcz12_4
  try clear hcz12_5
  try clear hcz14_0
  try clear hcz14_1
  try clear hcz14_2
  try clear hcz14_3
  try clear hcz14_4
  try clear hcz14_5
  try clear hcz16_0
  try clear hcz16_1
  try clear hcz16_2
  try clear hcz16_3
  try clear hcz16_4
  try clear hcz16_5
  try clear hcz18_0
  try clear hcz18_1
  try clear hcz18_2
  try clear hcz18_3
  try clear hcz18_4
  try clear hcz18_5
  try clear hcz20_0
  try clear hcz20_1
  try clear hcz20_2
  try clear hcz20_3
  try clear hcz20_4
  try clear hcz20_5
  try clear hcz22_0
  try clear hcz22_1
  try clear hcz22_2
  try clear hcz22_3
  try clear hcz22_4
  try clear hcz22_5
  try clear hcz23_0
  try clear hcz23_1
  try clear hcz23_2
  try clear hcz23_3
  try clear hcz23_4
  try clear hcz23_5
  try clear hcz25_0
  try clear hcz25_1
  try clear hcz25_2
  try clear hcz25_3
  try clear hcz25_4
  try clear hcz25_5
  try clear hcz27_0
  try clear hcz27_1
  try clear hcz27_2
  try clear hcz27_3
  try clear hcz27_4
  try clear hcz27_5
  try clear hcz28_0
  try clear hcz28_1
  try clear hcz28_2
  try clear hcz28_3
  try clear hcz28_4
  try clear hcz28_5
  try clear hcz30_0
  try clear hcz30_1
  try clear hcz30_2
  try clear hcz30_3
  try clear hcz30_4
  try clear hcz30_5
  try clear hcz32_0
  try clear hcz32_1
  try clear hcz32_2
  try clear hcz32_3
  try clear hcz32_4
  try clear hcz32_5
  try clear hcz5_0
  try clear hcz5_1
  try clear hcz5_2
  try clear hcz5_3
  try clear hcz5_4
  try clear hcz5_5
  try clear hfz12_0
  try clear hfz12_1
  try clear hfz12_2
  try clear hfz12_3
  try clear hfz12_4
  try clear hfz12_5
  try clear hfz14_0
  try clear hfz14_1
  try clear hfz14_2
  try clear hfz14_3
  try clear hfz14_4
  try clear hfz14_5
  try clear hfz16_0
  try clear hfz16_1
  try clear hfz16_2
  try clear hfz16_3
  try clear hfz16_4
  try clear hfz16_5
  try clear hfz18_0
  try clear hfz18_1
  try clear hfz18_2
  try clear hfz18_3
  try clear hfz18_4
  try clear hfz18_5
  try clear hfz20_0
  try clear hfz20_1
  try clear hfz20_2
  try clear hfz20_3
  try clear hfz20_4
  try clear hfz20_5
  try clear hfz22_0
  try clear hfz22_1
  try clear hfz22_2
  try clear hfz22_3
  try clear hfz22_4
  try clear hfz22_5
  try clear hfz23_0
  try clear hfz23_1
  try clear hfz23_2
  try clear hfz23_3
  try clear hfz23_4
  try clear hfz23_5
  try clear hfz25_0
  try clear hfz25_1
  try clear hfz25_2
  try clear hfz25_3
  try clear hfz25_4
  try clear hfz25_5
  try clear hfz27_0
  try clear hfz27_1
  try clear hfz27_2
  try clear hfz27_3
  try clear hfz27_4
  try clear hfz27_5
  try clear hfz28_0
  try clear hfz28_1
  try clear hfz28_2
  try clear hfz28_3
  try clear hfz28_4
  try clear hfz28_5
  try clear hfz30_0
  try clear hfz30_1
  try clear hfz30_2
  try clear hfz30_3
  try clear hfz30_4
  try clear hfz30_5
  try clear hfz32_0
  try clear hfz32_1
  try clear hfz32_2
  try clear hfz32_3
  try clear hfz32_4
  try clear hfz32_5
  try clear hfz5_0
  try clear hfz5_1
  try clear hfz5_2
  try clear hfz5_3
  try clear hfz5_4
  try clear hfz5_5
  obtain ⟨kq, x37_2, rfl, HA, HJ2, BK128, HB⟩ := hcut
  cases kq with
  | zero => exact absurd HA.out (by simp [slip_Check.j0])
  | succ kj2 =>
   have H := HA.out
   clear HA
   simp only [slip_Check.j0] at H
   by_cases c34 : x37_2 = true
   ·subst c34
    have H1 : (some 190) = some r := by rw [if_pos rfl] at H; exact H
    clear H
    have H := H1
    clear H1
    obtain rfl := Option.some.inj H
    go_wp2
    go_ret
    exact ⟨z76_, z34_⟩
   ·replace c34 := Bool.eq_false_iff.mpr c34
    subst c34
    have H1 : (slip_Check.l0 kj2 l0_4 (l0_4.length : Int) 0) = some r := by rw [if_neg (show ¬ (false = true) by decide)] at H; exact H
    clear H
    have H := H1
    clear H1
    have H' := a_ H
    clear H
    have hcz35_0 : wc.cell? ⟨gb128, 0, none⟩ = some (.string a0_0) := (blk_cell BK128.out 0).trans rfl
    have hcz35_1 : wc.cell? ⟨gb128, 1, none⟩ = some (.string a0_1) := (blk_cell BK128.out 1).trans rfl
    have hcz35_2 : wc.cell? ⟨gb128, 2, none⟩ = some (.int .u64 a0_2) := (blk_cell BK128.out 2).trans rfl
    have hcz35_3 : wc.cell? ⟨gb128, 3, none⟩ = some (.int .i64 a0_3) := (blk_cell BK128.out 3).trans rfl
    have hcz35_4 : wc.cell? ⟨gb128, 4, none⟩ = some (.slice A0_4 l0_4.length c0_4) := (blk_cell BK128.out 4).trans rfl
    have hcz35_5 : wc.cell? ⟨gb128, 5, none⟩ = some (.int .i64 a0_5) := (blk_cell BK128.out 5).trans rfl
    have hfz35_0 := blk_frozen BK128.out 0
    have hfz35_1 := blk_frozen BK128.out 1
    have hfz35_2 := blk_frozen BK128.out 2
    have hfz35_3 := blk_frozen BK128.out 3
    have hfz35_4 := blk_frozen BK128.out 4
    have hfz35_5 := blk_frozen BK128.out 5
    go_wp2
    go_loopg [41] kj2 (fun kq v41 w' => ∃ (x41_2 : Int), v41 = .int .i64 x41_2 ∧ Aside0 (slip_Check.l0 kq l0_4 (l0_4.length : Int) x41_2 = some r) ∧ Aside0 (kq ≤ kj2) ∧ Aside0 (w'.heap[gb128]? = some (.cells #[.string a0_0, .string a0_1, .int .u64 a0_2, .int .i64 a0_3, (.slice A0_4 l0_4.length c0_4), .int .i64 a0_5] 25 (0, 0))) ∧ Aside0 (Below w.heap.size w w'))
    case atStart => exact ⟨(0), z80_, H', ⟨Nat.le_refl _⟩, ⟨z62_⟩, ⟨z34_⟩⟩
    case round =>
     clear H'
     try clear c1
     try clear p2
     try clear c3
     try clear c8
     try clear c10
     try clear c11
     try clear c11b0
     try clear c11b1
     try clear c17
     try clear c17b0
     try clear c17b1
     try clear c32
     try clear c33
     try clear c34
     try clear hcz12_0
     try clear hcz12_1
     try clear hcz12_2
     try clear hcz12_3
     try clear hcz12_4
     try clear hcz12_5
     try clear hcz14_0
     try clear hcz14_1
     try clear hcz14_2
     try clear hcz14_3
     try clear hcz14_4
     try clear hcz14_5
     try clear hcz16_0
     try clear hcz16_1
     try clear hcz16_2
     try clear hcz16_3
     try clear hcz16_4
     try clear hcz16_5
     try clear hcz18_0
     try clear hcz18_1
     try clear hcz18_2
     try clear hcz18_3
     try clear hcz18_4
     try clear hcz18_5
     try clear hcz20_0
     try clear hcz20_1
     try clear hcz20_2
     try clear hcz20_3
     try clear hcz20_4
     try clear hcz20_5
     try clear hcz22_0
     try clear hcz22_1
     try clear hcz22_2
     try clear hcz22_3
     try clear hcz22_4
     try clear hcz22_5
     try clear hcz23_0
     try clear hcz23_1
     try clear hcz23_2
     try clear hcz23_3
     try clear hcz23_4
     try clear hcz23_5
     try clear hcz25_0
     try clear hcz25_1
     try clear hcz25_2
     try clear hcz25_3
     try clear hcz25_4
     try clear hcz25_5
     try clear hcz27_0
     try clear hcz27_1
     try clear hcz27_2
     try clear hcz27_3
     try clear hcz27_4
     try clear hcz27_5
     try clear hcz28_0
     try clear hcz28_1
     try clear hcz28_2
     try clear hcz28_3
     try clear hcz28_4
     try clear hcz28_5
     try clear hcz30_0
     try clear hcz30_1
     try clear hcz30_2
     try clear hcz30_3
     try clear hcz30_4
     try clear hcz30_5
     try clear hcz32_0
     try clear hcz32_1
     try clear hcz32_2
     try clear hcz32_3
     try clear hcz32_4
     try clear hcz32_5
     try clear hcz35_0
     try clear hcz35_1
     try clear hcz35_2
     try clear hcz35_3
     try clear hcz35_4
     try clear hcz35_5
     try clear hcz5_0
     try clear hcz5_1
     try clear hcz5_2
     try clear hcz5_3
     try clear hcz5_4
     try clear hcz5_5
     try clear hfz12_0
     try clear hfz12_1
     try clear hfz12_2
     try clear hfz12_3
     try clear hfz12_4
     try clear hfz12_5
     try clear hfz14_0
     try clear hfz14_1
     try clear hfz14_2
     try clear hfz14_3
     try clear hfz14_4
     try clear hfz14_5
     try clear hfz16_0
     try clear hfz16_1
     try clear hfz16_2
     try clear hfz16_3
     try clear hfz16_4
     try clear hfz16_5
     try clear hfz18_0
     try clear hfz18_1
     try clear hfz18_2
     try clear hfz18_3
     try clear hfz18_4
     try clear hfz18_5
     try clear hfz20_0
     try clear hfz20_1
     try clear hfz20_2
     try clear hfz20_3
     try clear hfz20_4
     try clear hfz20_5
     try clear hfz22_0
     try clear hfz22_1
     try clear hfz22_2
     try clear hfz22_3
     try clear hfz22_4
     try clear hfz22_5
     try clear hfz23_0
     try clear hfz23_1
     try clear hfz23_2
     try clear hfz23_3
     try clear hfz23_4
     try clear hfz23_5
     try clear hfz25_0
     try clear hfz25_1
     try clear hfz25_2
     try clear hfz25_3
     try clear hfz25_4
     try clear hfz25_5
     try clear hfz27_0
     try clear hfz27_1
     try clear hfz27_2
     try clear hfz27_3
     try clear hfz27_4
     try clear hfz27_5
     try clear hfz28_0
     try clear hfz28_1
     try clear hfz28_2
     try clear hfz28_3
     try clear hfz28_4
     try clear hfz28_5
     try clear hfz30_0
     try clear hfz30_1
     try clear hfz30_2
     try clear hfz30_3
     try clear hfz30_4
     try clear hfz30_5
     try clear hfz32_0
     try clear hfz32_1
     try clear hfz32_2
     try clear hfz32_3
     try clear hfz32_4
     try clear hfz32_5
     try clear hfz35_0
     try clear hfz35_1
     try clear hfz35_2
     try clear hfz35_3
     try clear hfz35_4
     try clear hfz35_5
     try clear hfz5_0
     try clear hfz5_1
     try clear hfz5_2
     try clear hfz5_3
     try clear hfz5_4
     try clear hfz5_5
     try clear p2
     obtain ⟨x41_2, rfl, HA, HK2, BK128, HB⟩ := hrel
     cases gk with
     | zero => exact absurd HA.out (by simp [slip_Check.l0])
     | succ k2 =>
      have H := HA.out
      clear HA
      simp only [slip_Check.l0] at H
      by_cases c36 : x41_2 < (l0_4.length : Int)
      ·rw [if_pos c36] at H
       have c36b0 : decide (x41_2 < (l0_4.length : Int)) = true := decide_eq_true c36
       clear c36
       by_cases c37 : 0 ≤ x41_2
       ·rw [if_pos c37] at H
        have c37b0 : decide (0 ≤ x41_2) = true := decide_eq_true c37
        clear c37
        by_cases c38 : x41_2 < (l0_4.length : Int)
        ·rw [if_pos c38] at H
         have c38b0 : decide (x41_2 < (l0_4.length : Int)) = true := decide_eq_true c38
         clear c38
         replace H := Option.bind_eq_some_iff.mp H
         obtain ⟨t135, A390, H⟩ := H
         replace H : (if t135 = true then (if ((rd_T37 l0_4 x41_2).f2) = 0 then (some 190) else (slip_Check.l0 k2 l0_4 (l0_4.length : Int) (wrap64 (x41_2 + 1)))) else (some 190)) = some r := H
         have A39 := a_ A390
         clear A390
         by_cases c40 : t135 = true
         ·subst c40
          have H1 : (if ((rd_T37 l0_4 x41_2).f2) = 0 then (some 190) else (slip_Check.l0 k2 l0_4 (l0_4.length : Int) (wrap64 (x41_2 + 1)))) = some r := by rw [if_pos rfl] at H; exact H
          clear H
          have H := H1
          clear H1
          by_cases c41 : ((rd_T37 l0_4 x41_2).f2) = 0
          ·rw [if_pos c41] at H
           have c41b0 : (((rd_T37 l0_4 x41_2).f2) == 0) = true := beq_iff_eq.mpr c41
           have c41b1 : (((rd_T37 l0_4 x41_2).f2) != 0) = false := bne_eq_false_iff_eq.mpr c41
           clear c41
           obtain rfl := Option.some.inj H
           have p133 : 0 ≤ (x41_2 : Int) := of_decide_eq_true z79_
           have q133 : x41_2 < (l0_4.length : Int) := of_decide_eq_true z79_
           obtain ⟨ad133, e133, hx133_0, hx133_1, hx133_2⟩ := at_T37 HR0_4.out x41_2 p133 q133
           cases e133
           replace hx133_0 := (HB.out.cell (World.block_lt_of_cell? w _ hx133_0)).trans hx133_0
           replace hx133_1 := (HB.out.cell (World.block_lt_of_cell? w _ hx133_1)).trans hx133_1
           replace hx133_2 := (HB.out.cell (World.block_lt_of_cell? w _ hx133_2)).trans hx133_2
           replace p133 := eq_true p133
           replace q133 := eq_true q133
           go_wp2_with (first | ((with_reducible refine gate_dst (N := 6) rfl ?_); (try (refine gate_guard (by rfl) ?_; dsimp only)); refine box_event ?hg (N := 6) ?hd (cs := #[.int .u64 0, .string (⟨#[]⟩ : ByteArray), .int .i64 0]) (t := 37) ?hr ?_; (case hd => rfl); (case hg => rfl); (case hr => first | (go_simp; done) | (go_simp; rfl)); intro gb134 hg w42 hbox hb; have n0_ := a_ (blk_below (g := gb128) (o := .cells #[.string a0_0, .string a0_1, .int .u64 a0_2, .int .i64 a0_3, .slice (some ad133) l0_4.length c0_4, .int .i64 a0_5] 25 (0, 0)) z62_ hb); have n1_ := a_ (below_step z34_ hb); have n2_ := a_ (hbox); have n3_ := a_ ((z16_ : w.heap.size ≤ gb134)); have n4_ := a_ ((z16_ : w.heap.size ≤ gb134)); have n5_ := a_ ((by rw [hg]; exact Nat.ne_of_lt (blk_lt (g := gb128) (o := .cells #[.string a0_0, .string a0_1, .int .u64 a0_2, .int .i64 a0_3, .slice (some ad133) l0_4.length c0_4, .int .i64 a0_5] 25 (0, 0)) z62_) : gb128 ≠ gb134)); have n6_ := a_ ((by rw [hg]; exact Nat.ne_of_gt (blk_lt (g := gb128) (o := .cells #[.string a0_0, .string a0_1, .int .u64 a0_2, .int .i64 a0_3, .slice (some ad133) l0_4.length c0_4, .int .i64 a0_5] 25 (0, 0)) z62_) : gb134 ≠ gb128)); clear BK128; clear HB; have BK128 := n0_; have HB := n1_; have BK134 := n2_; have GW134 := n3_; have GE134 := n4_; have NB128_134 := n5_; have NB134_128 := n6_; clear n0_ n1_ n2_ n3_ n4_ n5_ n6_; clear hb hbox hg; have hnb43 := NB134_128.out; have hnc43 := NB128_134.out; have hcz44_0 : w42.cell? ⟨gb134, 0, none⟩ = some (.int .u64 0) := (blk_cell BK134.out 0).trans rfl; have hcz44_1 : w42.cell? ⟨gb134, 1, none⟩ = some (.string (⟨#[]⟩ : ByteArray)) := (blk_cell BK134.out 1).trans rfl; have hcz44_2 : w42.cell? ⟨gb134, 2, none⟩ = some (.int .i64 0) := (blk_cell BK134.out 2).trans rfl; have hfz44_0 := blk_frozen BK134.out 0; have hfz44_1 := blk_frozen BK134.out 1; have hfz44_2 := blk_frozen BK134.out 2) | ((with_reducible refine gate_callee (f := 35) rfl ?_); refine goesL_ (some 47) rfl rfl Tryz.func35 z85_ rfl #[.string ((rd_T37 l0_4 x41_2).f1)] rfl z31_ ?_; (with_reducible refine (label_Word.calls ((rd_T37 l0_4 x41_2).f1) true _ ?side1 A39.out).mono ?_); (case side1 => exact Glob.below HG.out z20_); rintro e w45 ⟨rfl, hb⟩; refine ⟨_, rfl, ?_⟩; have n0_ := a_ (blk_below (g := gb128) (o := .cells #[.string a0_0, .string a0_1, .int .u64 a0_2, .int .i64 a0_3, .slice (some ad133) l0_4.length c0_4, .int .i64 a0_5] 25 (0, 0)) z4_ hb); have n1_ := a_ (blk_below (g := gb134) (o := .cells #[.int .u64 ((rd_T37 l0_4 x41_2).f0), .string ((rd_T37 l0_4 x41_2).f1), .int .i64 ((rd_T37 l0_4 x41_2).f2)] 37 (0, 0)) z2_ hb); have n2_ := a_ (below_step z20_ hb); clear BK128; clear BK134; clear HB; have BK128 := n0_; have BK134 := n1_; have HB := n2_; clear n0_ n1_ n2_; (try clear hb); (try clear hb2); (try clear hk); (try clear hi); have hcz46_0 : w45.cell? ⟨gb134, 0, none⟩ = some (.int .u64 ((rd_T37 l0_4 x41_2).f0)) := (blk_cell BK134.out 0).trans rfl; have hcz46_1 : w45.cell? ⟨gb134, 1, none⟩ = some (.string ((rd_T37 l0_4 x41_2).f1)) := (blk_cell BK134.out 1).trans rfl; have hcz46_2 : w45.cell? ⟨gb134, 2, none⟩ = some (.int .i64 ((rd_T37 l0_4 x41_2).f2)) := (blk_cell BK134.out 2).trans rfl; have hfz46_0 := blk_frozen BK134.out 0; have hfz46_1 := blk_frozen BK134.out 1; have hfz46_2 := blk_frozen BK134.out 2))
           go_ret
           exact ⟨z76_, z20_⟩
          ·rw [if_neg c41] at H
           have c41b0 : (((rd_T37 l0_4 x41_2).f2) == 0) = false := beq_eq_false_iff_ne.mpr c41
           have c41b1 : (((rd_T37 l0_4 x41_2).f2) != 0) = true := bne_iff_ne.mpr c41
           have H' := a_ H
           clear H
           have p133 : 0 ≤ (x41_2 : Int) := of_decide_eq_true z79_
           have q133 : x41_2 < (l0_4.length : Int) := of_decide_eq_true z79_
           obtain ⟨ad133, e133, hx133_0, hx133_1, hx133_2⟩ := at_T37 HR0_4.out x41_2 p133 q133
           cases e133
           replace hx133_0 := (HB.out.cell (World.block_lt_of_cell? w _ hx133_0)).trans hx133_0
           replace hx133_1 := (HB.out.cell (World.block_lt_of_cell? w _ hx133_1)).trans hx133_1
           replace hx133_2 := (HB.out.cell (World.block_lt_of_cell? w _ hx133_2)).trans hx133_2
           replace p133 := eq_true p133
           replace q133 := eq_true q133
           go_wp2_with (first | ((with_reducible refine gate_dst (N := 6) rfl ?_); (try (refine gate_guard (by rfl) ?_; dsimp only)); refine box_event ?hg (N := 6) ?hd (cs := #[.int .u64 0, .string (⟨#[]⟩ : ByteArray), .int .i64 0]) (t := 37) ?hr ?_; (case hd => rfl); (case hg => rfl); (case hr => first | (go_simp; done) | (go_simp; rfl)); intro gb134 hg w47 hbox hb; have n0_ := a_ (blk_below (g := gb128) (o := .cells #[.string a0_0, .string a0_1, .int .u64 a0_2, .int .i64 a0_3, .slice (some ad133) l0_4.length c0_4, .int .i64 a0_5] 25 (0, 0)) z62_ hb); have n1_ := a_ (below_step z34_ hb); have n2_ := a_ (hbox); have n3_ := a_ ((z16_ : w.heap.size ≤ gb134)); have n4_ := a_ ((z16_ : w.heap.size ≤ gb134)); have n5_ := a_ ((by rw [hg]; exact Nat.ne_of_lt (blk_lt (g := gb128) (o := .cells #[.string a0_0, .string a0_1, .int .u64 a0_2, .int .i64 a0_3, .slice (some ad133) l0_4.length c0_4, .int .i64 a0_5] 25 (0, 0)) z62_) : gb128 ≠ gb134)); have n6_ := a_ ((by rw [hg]; exact Nat.ne_of_gt (blk_lt (g := gb128) (o := .cells #[.string a0_0, .string a0_1, .int .u64 a0_2, .int .i64 a0_3, .slice (some ad133) l0_4.length c0_4, .int .i64 a0_5] 25 (0, 0)) z62_) : gb134 ≠ gb128)); clear BK128; clear HB; have BK128 := n0_; have HB := n1_; have BK134 := n2_; have GW134 := n3_; have GE134 := n4_; have NB128_134 := n5_; have NB134_128 := n6_; clear n0_ n1_ n2_ n3_ n4_ n5_ n6_; clear hb hbox hg; have hnb48 := NB134_128.out; have hnc48 := NB128_134.out; have hcz49_0 : w47.cell? ⟨gb134, 0, none⟩ = some (.int .u64 0) := (blk_cell BK134.out 0).trans rfl; have hcz49_1 : w47.cell? ⟨gb134, 1, none⟩ = some (.string (⟨#[]⟩ : ByteArray)) := (blk_cell BK134.out 1).trans rfl; have hcz49_2 : w47.cell? ⟨gb134, 2, none⟩ = some (.int .i64 0) := (blk_cell BK134.out 2).trans rfl; have hfz49_0 := blk_frozen BK134.out 0; have hfz49_1 := blk_frozen BK134.out 1; have hfz49_2 := blk_frozen BK134.out 2) | ((with_reducible refine gate_callee (f := 35) rfl ?_); refine goesL_ (some 47) rfl rfl Tryz.func35 z85_ rfl #[.string ((rd_T37 l0_4 x41_2).f1)] rfl z31_ ?_; (with_reducible refine (label_Word.calls ((rd_T37 l0_4 x41_2).f1) true _ ?side1 A39.out).mono ?_); (case side1 => exact Glob.below HG.out z20_); rintro e w50 ⟨rfl, hb⟩; refine ⟨_, rfl, ?_⟩; have n0_ := a_ (blk_below (g := gb128) (o := .cells #[.string a0_0, .string a0_1, .int .u64 a0_2, .int .i64 a0_3, .slice (some ad133) l0_4.length c0_4, .int .i64 a0_5] 25 (0, 0)) z4_ hb); have n1_ := a_ (blk_below (g := gb134) (o := .cells #[.int .u64 ((rd_T37 l0_4 x41_2).f0), .string ((rd_T37 l0_4 x41_2).f1), .int .i64 ((rd_T37 l0_4 x41_2).f2)] 37 (0, 0)) z2_ hb); have n2_ := a_ (below_step z20_ hb); clear BK128; clear BK134; clear HB; have BK128 := n0_; have BK134 := n1_; have HB := n2_; clear n0_ n1_ n2_; (try clear hb); (try clear hb2); (try clear hk); (try clear hi); have hcz51_0 : w50.cell? ⟨gb134, 0, none⟩ = some (.int .u64 ((rd_T37 l0_4 x41_2).f0)) := (blk_cell BK134.out 0).trans rfl; have hcz51_1 : w50.cell? ⟨gb134, 1, none⟩ = some (.string ((rd_T37 l0_4 x41_2).f1)) := (blk_cell BK134.out 1).trans rfl; have hcz51_2 : w50.cell? ⟨gb134, 2, none⟩ = some (.int .i64 ((rd_T37 l0_4 x41_2).f2)) := (blk_cell BK134.out 2).trans rfl; have hfz51_0 := blk_frozen BK134.out 0; have hfz51_1 := blk_frozen BK134.out 1; have hfz51_2 := blk_frozen BK134.out 2))
           go_roundg k2
           case measure => have := HJ2.out; have := HK2.out; omega
           case rel => exact ⟨(wrap64 (x41_2 + 1)), z80_, H', ⟨by have := HJ2.out; have := HK2.out; omega⟩, ⟨z62_⟩, ⟨z20_⟩⟩
         ·replace c40 := Bool.eq_false_iff.mpr c40
          subst c40
          have H1 : (some 190) = some r := by rw [if_neg (show ¬ (false = true) by decide)] at H; exact H
          clear H
          have H := H1
          clear H1
          obtain rfl := Option.some.inj H
          have p133 : 0 ≤ (x41_2 : Int) := of_decide_eq_true z79_
          have q133 : x41_2 < (l0_4.length : Int) := of_decide_eq_true z79_
          obtain ⟨ad133, e133, hx133_0, hx133_1, hx133_2⟩ := at_T37 HR0_4.out x41_2 p133 q133
          cases e133
          replace hx133_0 := (HB.out.cell (World.block_lt_of_cell? w _ hx133_0)).trans hx133_0
          replace hx133_1 := (HB.out.cell (World.block_lt_of_cell? w _ hx133_1)).trans hx133_1
          replace hx133_2 := (HB.out.cell (World.block_lt_of_cell? w _ hx133_2)).trans hx133_2
          replace p133 := eq_true p133
          replace q133 := eq_true q133
          go_wp2_with (first | ((with_reducible refine gate_dst (N := 6) rfl ?_); (try (refine gate_guard (by rfl) ?_; dsimp only)); refine box_event ?hg (N := 6) ?hd (cs := #[.int .u64 0, .string (⟨#[]⟩ : ByteArray), .int .i64 0]) (t := 37) ?hr ?_; (case hd => rfl); (case hg => rfl); (case hr => first | (go_simp; done) | (go_simp; rfl)); intro gb134 hg w52 hbox hb; have n0_ := a_ (blk_below (g := gb128) (o := .cells #[.string a0_0, .string a0_1, .int .u64 a0_2, .int .i64 a0_3, .slice (some ad133) l0_4.length c0_4, .int .i64 a0_5] 25 (0, 0)) z62_ hb); have n1_ := a_ (below_step z34_ hb); have n2_ := a_ (hbox); have n3_ := a_ ((z16_ : w.heap.size ≤ gb134)); have n4_ := a_ ((z16_ : w.heap.size ≤ gb134)); have n5_ := a_ ((by rw [hg]; exact Nat.ne_of_lt (blk_lt (g := gb128) (o := .cells #[.string a0_0, .string a0_1, .int .u64 a0_2, .int .i64 a0_3, .slice (some ad133) l0_4.length c0_4, .int .i64 a0_5] 25 (0, 0)) z62_) : gb128 ≠ gb134)); have n6_ := a_ ((by rw [hg]; exact Nat.ne_of_gt (blk_lt (g := gb128) (o := .cells #[.string a0_0, .string a0_1, .int .u64 a0_2, .int .i64 a0_3, .slice (some ad133) l0_4.length c0_4, .int .i64 a0_5] 25 (0, 0)) z62_) : gb134 ≠ gb128)); clear BK128; clear HB; have BK128 := n0_; have HB := n1_; have BK134 := n2_; have GW134 := n3_; have GE134 := n4_; have NB128_134 := n5_; have NB134_128 := n6_; clear n0_ n1_ n2_ n3_ n4_ n5_ n6_; clear hb hbox hg; have hnb53 := NB134_128.out; have hnc53 := NB128_134.out; have hcz54_0 : w52.cell? ⟨gb134, 0, none⟩ = some (.int .u64 0) := (blk_cell BK134.out 0).trans rfl; have hcz54_1 : w52.cell? ⟨gb134, 1, none⟩ = some (.string (⟨#[]⟩ : ByteArray)) := (blk_cell BK134.out 1).trans rfl; have hcz54_2 : w52.cell? ⟨gb134, 2, none⟩ = some (.int .i64 0) := (blk_cell BK134.out 2).trans rfl; have hfz54_0 := blk_frozen BK134.out 0; have hfz54_1 := blk_frozen BK134.out 1; have hfz54_2 := blk_frozen BK134.out 2) | ((with_reducible refine gate_callee (f := 35) rfl ?_); refine goesL_ (some 47) rfl rfl Tryz.func35 z85_ rfl #[.string ((rd_T37 l0_4 x41_2).f1)] rfl z31_ ?_; (with_reducible refine (label_Word.calls ((rd_T37 l0_4 x41_2).f1) false _ ?side1 A39.out).mono ?_); (case side1 => exact Glob.below HG.out z20_); rintro e w55 ⟨rfl, hb⟩; refine ⟨_, rfl, ?_⟩; have n0_ := a_ (blk_below (g := gb128) (o := .cells #[.string a0_0, .string a0_1, .int .u64 a0_2, .int .i64 a0_3, .slice (some ad133) l0_4.length c0_4, .int .i64 a0_5] 25 (0, 0)) z4_ hb); have n1_ := a_ (blk_below (g := gb134) (o := .cells #[.int .u64 ((rd_T37 l0_4 x41_2).f0), .string ((rd_T37 l0_4 x41_2).f1), .int .i64 ((rd_T37 l0_4 x41_2).f2)] 37 (0, 0)) z2_ hb); have n2_ := a_ (below_step z20_ hb); clear BK128; clear BK134; clear HB; have BK128 := n0_; have BK134 := n1_; have HB := n2_; clear n0_ n1_ n2_; (try clear hb); (try clear hb2); (try clear hk); (try clear hi)))
          go_ret
          exact ⟨z76_, z20_⟩
        ·rw [if_neg c38] at H
         exact absurd H (by simp)
       ·rw [if_neg c37] at H
        exact absurd H (by simp)
      ·rw [if_neg c36] at H
       have c36b0 : decide (x41_2 < (l0_4.length : Int)) = false := decide_eq_false c36
       clear c36
       obtain rfl := Option.some.inj H
       go_wp2
       go_ret
       exact ⟨z76_, z34_⟩

end Go.Proofs.YtnngbnhbmgdkoaaGreatDoor.P
