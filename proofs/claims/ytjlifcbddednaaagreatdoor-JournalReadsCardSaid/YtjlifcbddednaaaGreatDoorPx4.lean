-- Laid by wip/tools/cprint.py of this claim's own repo (over the kit's print).
import Derived.Test.YtjlifcbddednaaaGreatDoorSq
import Derived.Test.YtjlifcbddednaaaGreatDoorPx0
import Derived.Test.YtjlifcbddednaaaGreatDoorPx3
import Derived.Test.YtjlifcbddednaaaGreatDoorLib
import Derived.Test.YtjlifcbddednaaaGreatDoorNumber
import Derived.Test.YtjlifcbddednaaaGreatDoorParse
namespace Go.Proofs.YtjlifcbddednaaaGreatDoor.P
open Go.RowKit Go.Proofs.YtjlifcbddednaaaGreatDoor.E Go.Proofs.YtjlifcbddednaaaGreatDoorW.PrintWords Go.Proofs.YtjlifcbddednaaaGreatDoorW.PrintLast
set_option linter.unusedVariables false
set_option linter.unusedSimpArgs false

/-! ### journal_first: function 12 -/
mutual
def journal_first.j0 : Nat → List (S26) → List ByteArray → List ByteArray → Bool → Int → Int → ByteArray → Option (Int × Int × ByteArray × (List (S36)) × Int × Bool)
 | 0, _, _, _, _, _, _, _ => none
 | k + 1, x0, x5, x6, x32, x128000, x128001, x128002 => if x32 = true then (some (x128000, x128001, x128002, ([] : List (S36)), 0, false)) else (if 1 < (x6.length : Int) then (if 1 < (x5.length : Int) then ((label_Number.f (rdOf ByteArray.empty x5 1)).bind fun bt138 => (if 0 < (x6.length : Int) then ((label_Number.f (rdOf ByteArray.empty x6 0)).bind fun bt141 => (if 2 < (x6.length : Int) then ((coin_Parse.f (rdOf ByteArray.empty x6 2)).bind fun bt144 => (if bt138.2 = 0 then (if bt141.2 = 0 then (if bt144.2 = 0 then (if bt144.1 < 0 then (journal_first.j1 k x0 bt144.1 true bt138.1 bt141.1 (rdOf ByteArray.empty x6 1)) else (journal_first.j1 k x0 bt144.1 (decide (bt144.1 > (wrap64 ((x0.length : Int) - 1)))) bt138.1 bt141.1 (rdOf ByteArray.empty x6 1))) else (journal_first.j1 k x0 bt144.1 true bt138.1 bt141.1 (rdOf ByteArray.empty x6 1))) else (journal_first.j1 k x0 bt144.1 true bt138.1 bt141.1 (rdOf ByteArray.empty x6 1))) else (journal_first.j1 k x0 bt144.1 true bt138.1 bt141.1 (rdOf ByteArray.empty x6 1)))) else (none))) else (none))) else (none)) else (none))
def journal_first.j1 : Nat → List (S26) → Int → Bool → Int → Int → ByteArray → Option (Int × Int × ByteArray × (List (S36)) × Int × Bool)
 | 0, _, _, _, _, _, _ => none
 | k + 1, x0, x9, x81, x128000, x128001, x128002 => if x81 = true then (some (x128000, x128001, x128002, ([] : List (S36)), 0, false)) else (if 1 ≤ (wrap64 (1 + x9)) then (if (wrap64 (1 + x9)) ≤ (x0.length : Int) then ((some ((x0.take ((wrap64 (1 + x9)) : Int).toNat).drop 1 : List (S26))).bind fun y146 => (journal_first.l0 k x9 y146 (y146.length : Int) 0 x128000 x128001 x128002 ([] : List (S36)))) else (none)) else (none))
def journal_first.l0 : Nat → Int → List (S26) → Int → Int → Int → Int → ByteArray → List (S36) → Option (Int × Int × ByteArray × (List (S36)) × Int × Bool)
 | 0, _, _, _, _, _, _, _, _ => none
 | k + 1, x9, x86, x87, x88, x128000, x128001, x128002, x128003 => if x88 < x87 then (if 0 ≤ x88 then (if x88 < (x86.length : Int) then ((journal_leg.f ((rd_T26 x86 x88).f0) ((rd_T26 x86 x88).f1)).bind fun bt152 => (if bt152.2.2.2 = true then (if x128003.length < 3518437208883 then (journal_first.l0 k x9 x86 x87 (wrap64 (x88 + 1)) x128000 x128001 x128002 (x128003 ++ [(⟨bt152.1, bt152.2.1, bt152.2.2.1⟩ : S36)])) else (none)) else (some (x128000, x128001, x128002, x128003, 0, false)))) else (none)) else (none)) else (some (x128000, x128001, x128002, x128003, wrap64 (1 + x9), true))
end
def journal_first.f (k : Nat) (l0 : List (S26)) : Option (Int × Int × ByteArray × (List (S36)) × Int × Bool) := if 0 < (l0.length : Int) then ((strings_Split.f ((rd_T26 l0 0).f0) (⟨#[124]⟩ : ByteArray)).bind fun t129 => ((strings_Split.f ((rd_T26 l0 0).f1) (⟨#[124]⟩ : ByteArray)).bind fun t133 => (if (t129.length : Int) = 3 then (journal_first.j0 k l0 t129 t133 ((t133.length : Int) != 3) 0 0 (⟨#[]⟩ : ByteArray)) else (journal_first.j0 k l0 t129 t133 true 0 0 (⟨#[]⟩ : ByteArray))))) else (none)
theorem journal_first.mono_l : ∀ k, (∀ y0 y1 y2 y3 y4 y5 y6, LeO (journal_first.j0 k y0 y1 y2 y3 y4 y5 y6) (journal_first.j0 (k + 1) y0 y1 y2 y3 y4 y5 y6)) ∧ (∀ y0 y1 y2 y3 y4 y5, LeO (journal_first.j1 k y0 y1 y2 y3 y4 y5) (journal_first.j1 (k + 1) y0 y1 y2 y3 y4 y5)) ∧ (∀ y0 y1 y2 y3 y4 y5 y6 y7, LeO (journal_first.l0 k y0 y1 y2 y3 y4 y5 y6 y7) (journal_first.l0 (k + 1) y0 y1 y2 y3 y4 y5 y6 y7))
 | 0 => ⟨fun _ _ _ _ _ _ _ r h => by simp [journal_first.j0] at h, fun _ _ _ _ _ _ r h => by simp [journal_first.j1] at h, fun _ _ _ _ _ _ _ _ r h => by simp [journal_first.l0] at h⟩
 | k + 1 => by
  obtain ⟨ih0, ih1, ih2⟩ := journal_first.mono_l k
  refine ⟨?_, ?_, ?_⟩
  ·intro y0 y1 y2 y3 y4 y5 y6
   unfold journal_first.j0
   repeat' first
   | (with_reducible exact ih0 _ _ _ _ _ _ _)
   | (with_reducible exact ih1 _ _ _ _ _ _)
   | (with_reducible exact ih2 _ _ _ _ _ _ _ _)
   | (with_reducible first | exact LeO.refl _ | exact LeO.none _ | refine LeO.ite ?_ ?_ | refine LeO.bind ?_ fun _ => ?_)
   | exact ih0 _ _ _ _ _ _ _
   | exact ih1 _ _ _ _ _ _
   | exact ih2 _ _ _ _ _ _ _ _
  ·intro y0 y1 y2 y3 y4 y5
   unfold journal_first.j1
   repeat' first
   | (with_reducible exact ih0 _ _ _ _ _ _ _)
   | (with_reducible exact ih1 _ _ _ _ _ _)
   | (with_reducible exact ih2 _ _ _ _ _ _ _ _)
   | (with_reducible first | exact LeO.refl _ | exact LeO.none _ | refine LeO.ite ?_ ?_ | refine LeO.bind ?_ fun _ => ?_)
   | exact ih0 _ _ _ _ _ _ _
   | exact ih1 _ _ _ _ _ _
   | exact ih2 _ _ _ _ _ _ _ _
  ·intro y0 y1 y2 y3 y4 y5 y6 y7
   unfold journal_first.l0
   repeat' first
   | (with_reducible exact ih0 _ _ _ _ _ _ _)
   | (with_reducible exact ih1 _ _ _ _ _ _)
   | (with_reducible exact ih2 _ _ _ _ _ _ _ _)
   | (with_reducible first | exact LeO.refl _ | exact LeO.none _ | refine LeO.ite ?_ ?_ | refine LeO.bind ?_ fun _ => ?_)
   | exact ih0 _ _ _ _ _ _ _
   | exact ih1 _ _ _ _ _ _
   | exact ih2 _ _ _ _ _ _ _ _
theorem journal_first.mono : ∀ a0 k, LeO (journal_first.f k a0) (journal_first.f (k + 1) a0) := by
 intro a0 k
 obtain ⟨ih0, ih1, ih2⟩ := journal_first.mono_l k
 unfold journal_first.f
 repeat' first
   | (with_reducible exact ih0 _ _ _ _ _ _ _)
   | (with_reducible exact ih1 _ _ _ _ _ _)
   | (with_reducible exact ih2 _ _ _ _ _ _ _ _)
   | (with_reducible first | exact LeO.refl _ | exact LeO.none _ | refine LeO.ite ?_ ?_ | refine LeO.bind ?_ fun _ => ?_)
   | exact ih0 _ _ _ _ _ _ _
   | exact ih1 _ _ _ _ _ _
   | exact ih2 _ _ _ _ _ _ _ _
def journal_first.T1 : Bool × List (List Nat × List Nat) := (true, [([], []), ([0], [0]), ([1], [1]), ([2], [2]), ([3], [3]), ([], []), ([5], [5]), ([6], [6]), ([7], [7]), ([8, 4], [8]), ([4, 9, 0, 1, 2, 3, 4], [4]), ([9, 10, 0, 1, 2, 3, 4, 5, 6, 7, 8, 9, 10], [9])])
def journal_first.B1 : List Nat := [0, 1, 3, 7, 15, 0, 32, 96, 224, 511, 1023, 2047]
theorem journal_first.tab1 : rtab .any (opsOf Tryz.f12 1) = journal_first.T1 := by kernel_rfl
theorem journal_first.bits1 : waitsOk journal_first.T1.2 journal_first.B1 = true := by kernel_rfl
set_option maxHeartbeats 8000000 in
set_option maxRecDepth 100000 in
theorem journal_first.calls (k : Nat) (A0 : Option Addr) (c0 : Nat) (l0 : List (S26)) (r1 : Int) (r2 : Int) (r3 : ByteArray) (r4 : List (S36)) (r5 : Int) (r6 : Bool) (w : World) (hG : Glob w) (hr0 : Kd.C k26 w A0 l0.length l0) (hc0 : l0.length ≤ c0) (h : journal_first.f k l0 = some (r1, r2, r3, r4, r5, r6)) :
  Calls Tryz.prog 12 #[.slice A0 l0.length c0] w fun e w' => ∃ v3_ : Value, e = .returned (.tuple #[.agg #[.int .u64 r1, .int .u64 r2, .string r3, v3_], .int .i64 r5, .bool r6]) ∧ Kd.R k36 36 w' w.heap.size (fun _ => True) v3_ r4 ∧ Below w.heap.size w w' := by
 have hu39 := Tryz.underlying39
 have hu26 := Tryz.underlying26
 have hu36 := Tryz.underlying36
 have HG := a_ hG
 clear hG
 have HR0 := a_ hr0
 have HC0 := a_ hc0
 clear hr0 hc0
 have HB := a_ (Below.refl w.heap.size w)
 have H : (if 0 < (l0.length : Int) then ((strings_Split.f ((rd_T26 l0 0).f0) (⟨#[124]⟩ : ByteArray)).bind fun t129 => ((strings_Split.f ((rd_T26 l0 0).f1) (⟨#[124]⟩ : ByteArray)).bind fun t133 => (if (t129.length : Int) = 3 then (journal_first.j0 k l0 t129 t133 ((t133.length : Int) != 3) 0 0 (⟨#[]⟩ : ByteArray)) else (journal_first.j0 k l0 t129 t133 true 0 0 (⟨#[]⟩ : ByteArray))))) else (none)) = some (r1, r2, r3, r4, r5, r6) := h
 clear h
 by_cases c2 : 0 < (l0.length : Int)
 ·rw [if_pos c2] at H
  have c2b0 : decide (0 < (l0.length : Int)) = true := decide_eq_true c2
  have c2b1 : decide (0 < l0.length) = true := decide_eq_true (by omega)
  clear c2
  replace H := Option.bind_eq_some_iff.mp H
  obtain ⟨t129, A30, H⟩ := H
  replace H : ((strings_Split.f ((rd_T26 l0 0).f1) (⟨#[124]⟩ : ByteArray)).bind fun t133 => (if (t129.length : Int) = 3 then (journal_first.j0 k l0 t129 t133 ((t133.length : Int) != 3) 0 0 (⟨#[]⟩ : ByteArray)) else (journal_first.j0 k l0 t129 t133 true 0 0 (⟨#[]⟩ : ByteArray)))) = some (r1, r2, r3, r4, r5, r6) := H
  have A3 := a_ A30
  clear A30
  replace H := Option.bind_eq_some_iff.mp H
  obtain ⟨t133, A40, H⟩ := H
  replace H : (if (t129.length : Int) = 3 then (journal_first.j0 k l0 t129 t133 ((t133.length : Int) != 3) 0 0 (⟨#[]⟩ : ByteArray)) else (journal_first.j0 k l0 t129 t133 true 0 0 (⟨#[]⟩ : ByteArray))) = some (r1, r2, r3, r4, r5, r6) := H
  have A4 := a_ A40
  clear A40
  have HC5 := a_ H
  clear H
  go_enter Tryz.func12, Tryz.ntmps12
  try go_wp2_with (first | ((with_reducible refine gate_dst (N := 2) rfl ?_); (try (refine gate_guard (by rfl) ?_; dsimp only)); refine box_event ?hg (N := 2) ?hd (cs := #[.int .u64 0, .int .u64 0, .string (⟨#[]⟩ : ByteArray), .slice none 0 0]) (t := 39) ?hr ?_; (case hd => rfl); (case hg => rfl); (case hr => first | (go_simp; done) | (go_simp; rfl)); intro gb127 hg w6 hbox hb; have n0_ := a_ (below_step z33_ hb); have n1_ := a_ (hbox); have n2_ := a_ ((z20_ : w.heap.size ≤ gb127)); have n3_ := a_ ((z20_ : w.heap.size ≤ gb127)); clear HB; have HB := n0_; have BK127 := n1_; have GW127 := n2_; have GE127 := n3_; clear n0_ n1_ n2_ n3_; clear hb hbox hg))
  have n0_ := a_ (blk_drew BK127.out)
  have n1_ := a_ (below_drew1 HB.out)
  clear BK127
  clear HB
  have BK127 := n0_
  have HB := n1_
  clear n0_ n1_
  have p128 : 0 ≤ (0 : Int) := (by omega)
  have q128 : 0 < (l0.length : Int) := of_decide_eq_true z70_
  obtain ⟨ad128, e128, hx128_0, hx128_1⟩ := at_T26 HR0.out 0 p128 q128
  have hw128_1 := hx128_1
  (try rw [show ((0 : Int)).toNat = 0 from rfl] at hw128_1)
  (try rw [show 0 * 2 = 0 from rfl] at hw128_1)
  (try rw [Addr.add_zero'] at hw128_1)
  have hw128_0 := hx128_0
  (try rw [show ((0 : Int)).toNat = 0 from rfl] at hw128_0)
  (try rw [show 0 * 2 = 0 from rfl] at hw128_0)
  (try rw [Addr.add_zero'] at hw128_0)
  cases e128
  have qi128 : (0 < l0.length) = True := eq_true (by omega)
  (try rw [show ((0 : Int)).toNat = 0 from rfl] at hx128_0)
  (try rw [show 0 * 2 = 0 from rfl] at hx128_0)
  (try rw [Addr.add_zero'] at hx128_0)
  (try rw [show ((0 : Int)).toNat = 0 from rfl] at hx128_1)
  (try rw [show 0 * 2 = 0 from rfl] at hx128_1)
  (try rw [Addr.add_zero'] at hx128_1)
  replace hx128_0 := (HB.out.cell (World.block_lt_of_cell? w _ hx128_0)).trans hx128_0
  replace hx128_1 := (HB.out.cell (World.block_lt_of_cell? w _ hx128_1)).trans hx128_1
  replace p128 := eq_true p128
  replace q128 := eq_true q128
  have p132 : 0 ≤ (0 : Int) := (by omega)
  have q132 : 0 < (l0.length : Int) := of_decide_eq_true z70_
  obtain ⟨ad132, e132, hx132_0, hx132_1⟩ := at_T26 HR0.out 0 p132 q132
  have hw132_1 := hx132_1
  (try rw [show ((0 : Int)).toNat = 0 from rfl] at hw132_1)
  (try rw [show 0 * 2 = 0 from rfl] at hw132_1)
  (try rw [Addr.add_zero'] at hw132_1)
  have hw132_0 := hx132_0
  (try rw [show ((0 : Int)).toNat = 0 from rfl] at hw132_0)
  (try rw [show 0 * 2 = 0 from rfl] at hw132_0)
  (try rw [Addr.add_zero'] at hw132_0)
  obtain rfl : ad128 = ad132 := (by injection e132)
  have qi132 : (0 < l0.length) = True := eq_true (by omega)
  (try rw [show ((0 : Int)).toNat = 0 from rfl] at hx132_0)
  (try rw [show 0 * 2 = 0 from rfl] at hx132_0)
  (try rw [Addr.add_zero'] at hx132_0)
  (try rw [show ((0 : Int)).toNat = 0 from rfl] at hx132_1)
  (try rw [show 0 * 2 = 0 from rfl] at hx132_1)
  (try rw [Addr.add_zero'] at hx132_1)
  replace hx132_0 := (HB.out.cell (World.block_lt_of_cell? w _ hx132_0)).trans hx132_0
  replace hx132_1 := (HB.out.cell (World.block_lt_of_cell? w _ hx132_1)).trans hx132_1
  replace p132 := eq_true p132
  replace q132 := eq_true q132
  refine start_ (n := 12) (S := fun w' => w'.cell? ad128 = some (.string ((rd_T26 l0 0).f0)) ∧ w'.cell? ⟨ad128.block, ad128.off + 1, none⟩ = some (.string ((rd_T26 l0 0).f1)) ∧ w'.cell? ad128 = some (.string ((rd_T26 l0 0).f0)) ∧ w'.cell? ⟨ad128.block, ad128.off + 1, none⟩ = some (.string ((rd_T26 l0 0).f1))) (ds := []) #[false, false, false, false, false, false, false, false, false, false, false, false] z74_ rfl rfl ⟨((HB.out.cell (World.block_lt_of_cell? w _ hw128_0)).trans hw128_0), ((HB.out.cell (World.block_lt_of_cell? w _ hw128_1)).trans hw128_1), ((HB.out.cell (World.block_lt_of_cell? w _ hw132_0)).trans hw132_0), ((HB.out.cell (World.block_lt_of_cell? w _ hw132_1)).trans hw132_1)⟩ (fun hHeld => ?_); refine with_tabW journal_first.tab1 journal_first.bits1 (fun HT_ HW_ => ?_)
  generalize w6.drew = w7 at BK127 HB hx128_0 hx128_1 hx132_0 hx132_1 hHeld ⊢
  refine pure_ (i := 0) (N := some 15) (v := ?_) (a' := ?_) (fl_ 12 1) rfl rfl (any_of HT_.out z74_) (fun _ _ _ h => h) (Or.inl ⟨by rfl, ?_⟩) ?_ ?_
  rotate_left
  ·intro w'
   go_simp
   with_reducible rfl
  rotate_left
  ·simp only [Act.put, sT_, s0_, sS_, i64_w, i32_w]
   rfl
  refine pure_ (i := 1) (N := some 16) (v := ?_) (a' := ?_) (fl_ 12 3) rfl rfl (any_of HT_.out z74_) (fun _ _ _ h => h) (Or.inl ⟨by rfl, ?_⟩) ?_ ?_
  rotate_left
  ·intro w'
   go_simp
   with_reducible rfl
  rotate_left
  ·simp only [Act.put, sT_, s0_, sS_, i64_w, i32_w]
   rfl
  refine pure_ (i := 2) (N := some 17) (v := ?_) (a' := ?_) (fl_ 12 7) rfl rfl (any_of HT_.out z74_) (fun _ _ _ h => h) (Or.inl ⟨by rfl, ?_⟩) ?_ ?_
  rotate_left
  ·intro w'
   go_simp
   with_reducible rfl
  rotate_left
  ·simp only [Act.put, sT_, s0_, sS_, i64_w, i32_w]
   rfl
  refine pure_ (i := 5) (N := some 20) (v := ?_) (a' := ?_) (fl_ 12 39) rfl rfl (any_of HT_.out z74_) (fun _ _ _ h => h) (Or.inl ⟨by rfl, ?_⟩) ?_ ?_
  rotate_left
  ·intro w'
   go_simp
   with_reducible rfl
  rotate_left
  ·simp only [Act.put, sT_, s0_, sS_, i64_w, i32_w]
   rfl
  refine pure_ (i := 6) (N := some 21) (v := ?_) (a' := ?_) (fl_ 12 103) rfl rfl (any_of HT_.out z74_) (fun _ _ _ h => h) (Or.inl ⟨by rfl, ?_⟩) ?_ ?_
  rotate_left
  ·intro w'
   go_simp
   with_reducible rfl
  rotate_left
  ·simp only [Act.put, sT_, s0_, sS_, i64_w, i32_w]
   rfl
  refine pure_ (i := 7) (N := some 22) (v := ?_) (a' := ?_) (fl_ 12 231) rfl rfl (any_of HT_.out z74_) (fun _ _ _ h => h) (Or.inl ⟨by rfl, ?_⟩) ?_ ?_
  rotate_left
  ·intro w'
   go_simp
   with_reducible rfl
  rotate_left
  ·simp only [Act.put, sT_, s0_, sS_, i64_w, i32_w]
   rfl
  refine take_ (i := 3) (N := some 18) (v := ?_) (a' := ?_) (fl_ 12 239) rfl rfl (take_ofW HT_.out HW_.out z74_) (fun _ _ _ h => h) (Or.inl ⟨by rfl, ?_⟩) hHeld ?_ ?_
  rotate_left
  ·rintro w' ⟨s0, s1, s2, s3⟩
   go_simp
   with_reducible rfl
  rotate_left
  ·simp only [Act.put, sT_, s0_, sS_, i64_w, i32_w]
   rfl
  refine take_ (i := 8) (N := some 23) (v := ?_) (a' := ?_) (fl_ 12 495) rfl rfl (take_ofW HT_.out HW_.out z74_) (fun _ _ _ h => h) (Or.inl ⟨by rfl, ?_⟩) hHeld ?_ ?_
  rotate_left
  ·rintro w' ⟨s0, s1, s2, s3⟩
   go_simp
   with_reducible rfl
  rotate_left
  ·simp only [Act.put, sT_, s0_, sS_, i64_w, i32_w]
   rfl
  refine one_ (i := 4) (N := some 19) (fl_ 12 511) rfl rfl (one_of HT_.out z74_) (by decide) (fun K hK => ?_)
  refine goes_ Tryz.func27 z74_ rfl #[.string ((rd_T26 l0 0).f0), .string (⟨#[124]⟩ : ByteArray)] (by rfl) rfl rfl z19_ ?_
  with_reducible refine (strings_Split.calls ((rd_T26 l0 0).f0) (⟨#[124]⟩ : ByteArray) t129 _ ?side1 A3.out).mono ?_
  (case side1 => exact Glob.below HG.out z23_)
  rintro e w8 ⟨v130, rfl, ho0, hb⟩
  refine ⟨_, rfl, ?_⟩
  have n0_ := a_ (Kd.R_lower ho0 (below_size z23_))
  have n1_ := a_ (blk_below (g := gb127) (o := .cells #[.int .u64 0, .int .u64 0, .string (⟨#[]⟩ : ByteArray), .slice none 0 0] 39 (0, 0)) z52_ hb)
  have n2_ := a_ (below_step z23_ hb)
  clear BK127
  clear HB
  have HO131 := n0_
  have BK127 := n1_
  have HB := n2_
  clear n0_ n1_ n2_
  (try clear hb)
  (try clear hb2)
  (try clear hk)
  (try clear hi)
  (try clear ho0)
  refine hK.out _ _ ⟨((HB.out.cell (World.block_lt_of_cell? w _ hw128_0)).trans hw128_0), ((HB.out.cell (World.block_lt_of_cell? w _ hw128_1)).trans hw128_1), ((HB.out.cell (World.block_lt_of_cell? w _ hw132_0)).trans hw132_0), ((HB.out.cell (World.block_lt_of_cell? w _ hw132_1)).trans hw132_1)⟩ (fun hHeld => ?_)
  clear hK K
  refine norm_ (a' := ?_) ?_ ?_
  rotate_left
  ·show Act.put _ (some 19) _ = _
   simp only [Act.put, sT_, s0_, sS_, i64_w, i32_w]
   rfl
  refine one_ (i := 9) (N := some 24) (fl_ 12 1023) rfl rfl (one_of HT_.out z74_) (by decide) (fun K hK => ?_)
  refine goes_ Tryz.func27 z74_ rfl #[.string ((rd_T26 l0 0).f1), .string (⟨#[124]⟩ : ByteArray)] (by rfl) rfl rfl z19_ ?_
  with_reducible refine (strings_Split.calls ((rd_T26 l0 0).f1) (⟨#[124]⟩ : ByteArray) t133 _ ?side1 A4.out).mono ?_
  (case side1 => exact Glob.below HG.out z23_)
  rintro e w9 ⟨v134, rfl, ho0, hb⟩
  refine ⟨_, rfl, ?_⟩
  have n0_ := a_ (Kd.R_elder' (by (with_reducible repeat (first | apply Kd.R_alloc | apply Kd.R_drewN | apply Kd.R_drew)); exact HO131.out) (Kd.R_base ho0) hb)
  have n1_ := a_ (Kd.R_lower (Kd.R_new' ho0 (Kd.R_lt (by (with_reducible repeat (first | apply Kd.R_alloc | apply Kd.R_drewN | apply Kd.R_drew)); exact HO131.out))) (below_size z23_))
  have n2_ := a_ (blk_below (g := gb127) (o := .cells #[.int .u64 0, .int .u64 0, .string (⟨#[]⟩ : ByteArray), .slice none 0 0] 39 (0, 0)) z52_ hb)
  have n3_ := a_ (below_step z23_ hb)
  clear HO131
  clear BK127
  clear HB
  have HO131 := n0_
  have HO135 := n1_
  have BK127 := n2_
  have HB := n3_
  clear n0_ n1_ n2_ n3_
  (try clear hb)
  (try clear hb2)
  (try clear hk)
  (try clear hi)
  (try clear ho0)
  refine hK.out _ _ ⟨((HB.out.cell (World.block_lt_of_cell? w _ hw128_0)).trans hw128_0), ((HB.out.cell (World.block_lt_of_cell? w _ hw128_1)).trans hw128_1), ((HB.out.cell (World.block_lt_of_cell? w _ hw132_0)).trans hw132_0), ((HB.out.cell (World.block_lt_of_cell? w _ hw132_1)).trans hw132_1)⟩ (fun hHeld => ?_)
  clear hK K
  refine norm_ (a' := ?_) ?_ ?_
  rotate_left
  ·show Act.put _ (some 24) _ = _
   simp only [Act.put, sT_, s0_, sS_, i64_w, i32_w]
   rfl
  refine pure_ (i := 10) (N := some 5) (v := ?_) (a' := ?_) (fl_ 12 2047) rfl rfl (any_of HT_.out z74_) (fun _ _ _ h => h) (Or.inl ⟨by rfl, ?_⟩) ?_ ?_
  rotate_left
  ·intro w'
   go_simp
   with_reducible rfl
  rotate_left
  ·simp only [Act.put, sT_, s0_, sS_, i64_w, i32_w]
   rfl
  refine pure_ (i := 11) (N := some 6) (v := ?_) (a' := ?_) (fl_ 12 4095) rfl rfl (any_of HT_.out z74_) (fun _ _ _ h => h) (Or.inl ⟨by rfl, ?_⟩) ?_ ?_
  rotate_left
  ·intro w'
   go_simp
   with_reducible rfl
  rotate_left
  ·simp only [Act.put, sT_, s0_, sS_, i64_w, i32_w]
   rfl
  refine done_ (done_of HT_.out z74_) ?_
  go_upto_region 2 with (fail)
  go_cut [32] (fun v32 wc => ∃ (kq : Nat) (x32_4 : Bool), v32 = .bool x32_4 ∧ Aside0 (journal_first.j0 kq l0 t129 t133 x32_4 0 0 (⟨#[]⟩ : ByteArray) = some (r1, r2, r3, r4, r5, r6)) ∧ Aside0 (kq ≤ k) ∧ Aside0 (Kd.R Kd.string 9 wc w.heap.size (fun k_ => some k_ ≠ (v134 : Value).ownBlock) v130 t129) ∧ Aside0 (Kd.R Kd.string 9 wc w.heap.size (fun k_ => some k_ ≠ (v130 : Value).ownBlock) v134 t133) ∧ Aside0 (wc.heap[gb127]? = some (.cells #[.int .u64 0, .int .u64 0, .string (⟨#[]⟩ : ByteArray), (.slice none 0 0)] 39 (0, 0))) ∧ Aside0 (Below w.heap.size w wc))
  case first =>
   have H := HC5.out
   clear HC5
   by_cases c10 : (t129.length : Int) = 3
   ·rw [if_pos c10] at H
    have c10b0 : ((t129.length : Int) == 3) = true := beq_iff_eq.mpr c10
    have c10b1 : ((t129.length : Int) != 3) = false := bne_eq_false_iff_eq.mpr c10
    clear c10
    (first | rw [c10b0] | (simp only [i64_w, i32_w]; rw [c10b0]) | skip)
    have H' := a_ H
    clear H
    obtain ⟨Ao11, co11, eo11⟩ := Kd.R_slice HO131.out
    subst eo11
    obtain ⟨Ao12, co12, eo12⟩ := Kd.R_slice HO135.out
    subst eo12
    go_wp2
    go_meet
    case rel => exact ⟨_, (((t133.length : Int) != 3)), z71_, H', ⟨z72_⟩, ⟨by (with_reducible repeat (first | apply Kd.R_alloc | apply Kd.R_drewN | apply Kd.R_drew)); exact Kd.R_mono HO131.out (fun _ hk => hk.2)⟩, ⟨by (with_reducible repeat (first | apply Kd.R_alloc | apply Kd.R_drewN | apply Kd.R_drew)); exact Kd.R_mono HO135.out (fun _ hk => hk.2)⟩, ⟨z52_⟩, ⟨z23_⟩⟩
   ·rw [if_neg c10] at H
    have c10b0 : ((t129.length : Int) == 3) = false := beq_eq_false_iff_ne.mpr c10
    have c10b1 : ((t129.length : Int) != 3) = true := bne_iff_ne.mpr c10
    (first | rw [c10b0] | (simp only [i64_w, i32_w]; rw [c10b0]) | skip)
    have H' := a_ H
    clear H
    obtain ⟨Ao13, co13, eo13⟩ := Kd.R_slice HO131.out
    subst eo13
    go_wp2
    go_meet
    case rel => exact ⟨_, (true), z71_, H', ⟨z72_⟩, ⟨by (with_reducible repeat (first | apply Kd.R_alloc | apply Kd.R_drewN | apply Kd.R_drew)); exact Kd.R_mono HO131.out (fun _ hk => hk.2)⟩, ⟨by (with_reducible repeat (first | apply Kd.R_alloc | apply Kd.R_drewN | apply Kd.R_drew)); exact Kd.R_mono HO135.out (fun _ hk => hk.2)⟩, ⟨z52_⟩, ⟨z23_⟩⟩
  case rest =>
   clear HC5
   try clear c1
   try clear p1
   try clear q1
   try clear hx1
   try clear qi1
   try clear c2
   try clear c2b0
   try clear c2b1
   try clear p2
   try clear c10
   try clear c10b0
   try clear c10b1
   try clear c12
   try clear p12
   try clear q12
   try clear hx12
   try clear qi12
   try clear p13
   try clear q13
   try clear hx13
   try clear qi13
   try clear hx128_0
   try clear hx128_1
   try clear hx132_0
   try clear hx132_1
   try clear p128
   try clear p132
   try clear q128
   try clear q132
   obtain ⟨kq, x32_4, rfl, HA, HJ4, HO_5, HO_6, BK127, HB⟩ := hcut
   cases kq with
   | zero => exact absurd HA.out (by simp [journal_first.j0])
   | succ kj4 =>
    have H := HA.out
    clear HA
    simp only [journal_first.j0] at H
    by_cases c14 : x32_4 = true
    ·subst c14
     have H1 : (some (0, 0, (⟨#[]⟩ : ByteArray), ([] : List (S36)), 0, false)) = some (r1, r2, r3, r4, r5, r6) := by rw [if_pos rfl] at H; exact H
     clear H
     have H := H1
     clear H1
     simp only [Option.some.injEq, Prod.mk.injEq] at H
     obtain ⟨rfl, rfl, rfl, rfl, rfl, rfl⟩ := H
     have hcz15_0 : wc.cell? ⟨gb127, 0, none⟩ = some (.int .u64 0) := (blk_cell BK127.out 0).trans rfl
     have hcz15_1 : wc.cell? ⟨gb127, 1, none⟩ = some (.int .u64 0) := (blk_cell BK127.out 1).trans rfl
     have hcz15_2 : wc.cell? ⟨gb127, 2, none⟩ = some (.string (⟨#[]⟩ : ByteArray)) := (blk_cell BK127.out 2).trans rfl
     have hcz15_3 : wc.cell? ⟨gb127, 3, none⟩ = some (.slice none 0 0) := (blk_cell BK127.out 3).trans rfl
     have hfz15_0 := blk_frozen BK127.out 0
     have hfz15_1 := blk_frozen BK127.out 1
     have hfz15_2 := blk_frozen BK127.out 2
     have hfz15_3 := blk_frozen BK127.out 3
     go_wp2
     refine bodyPost_ret (results_ctt rfl _ _ gb127 39 #[.int .u64 0, .int .u64 0, .string (⟨#[]⟩ : ByteArray), .slice none 0 0] (0, 0) _ rfl (by (with_reducible repeat (first | refine kN_ ?_ _ | refine kD_ ?_ | refine kA_ ?_ _)); refine blk_put (cs := #[.int .u64 0, .int .u64 0, .string (⟨#[]⟩ : ByteArray), .slice none 0 0]) ?_ 3 _ rfl; (with_reducible repeat (first | refine kN_ ?_ _ | refine kD_ ?_ | refine kA_ ?_ _)); refine blk_put (cs := #[.int .u64 0, .int .u64 0, .string (⟨#[]⟩ : ByteArray), .slice none 0 0]) ?_ 2 _ rfl; (with_reducible repeat (first | refine kN_ ?_ _ | refine kD_ ?_ | refine kA_ ?_ _)); refine blk_put (cs := #[.int .u64 0, .int .u64 0, .string (⟨#[]⟩ : ByteArray), .slice none 0 0]) ?_ 1 _ rfl; (with_reducible repeat (first | refine kN_ ?_ _ | refine kD_ ?_ | refine kA_ ?_ _)); refine blk_put (cs := #[.int .u64 0, .int .u64 0, .string (⟨#[]⟩ : ByteArray), .slice none 0 0]) ?_ 0 _ rfl; (with_reducible repeat (first | refine kN_ ?_ _ | refine kD_ ?_ | refine kA_ ?_ _)); exact BK127.out) Tryz.underlying39 rfl z74_) rfl ?_
     exact ⟨_, z64_, z18_, z23_⟩
    ·replace c14 := Bool.eq_false_iff.mpr c14
     subst c14
     have H1 : (if 1 < (t133.length : Int) then (if 1 < (t129.length : Int) then ((label_Number.f (rdOf ByteArray.empty t129 1)).bind fun bt138 => (if 0 < (t133.length : Int) then ((label_Number.f (rdOf ByteArray.empty t133 0)).bind fun bt141 => (if 2 < (t133.length : Int) then ((coin_Parse.f (rdOf ByteArray.empty t133 2)).bind fun bt144 => (if bt138.2 = 0 then (if bt141.2 = 0 then (if bt144.2 = 0 then (if bt144.1 < 0 then (journal_first.j1 kj4 l0 bt144.1 true bt138.1 bt141.1 (rdOf ByteArray.empty t133 1)) else (journal_first.j1 kj4 l0 bt144.1 (decide (bt144.1 > (wrap64 ((l0.length : Int) - 1)))) bt138.1 bt141.1 (rdOf ByteArray.empty t133 1))) else (journal_first.j1 kj4 l0 bt144.1 true bt138.1 bt141.1 (rdOf ByteArray.empty t133 1))) else (journal_first.j1 kj4 l0 bt144.1 true bt138.1 bt141.1 (rdOf ByteArray.empty t133 1))) else (journal_first.j1 kj4 l0 bt144.1 true bt138.1 bt141.1 (rdOf ByteArray.empty t133 1)))) else (none))) else (none))) else (none)) else (none)) = some (r1, r2, r3, r4, r5, r6) := by rw [if_neg (show ¬ (false = true) by decide)] at H; exact H
     clear H
     have H := H1
     clear H1
     by_cases c16 : 1 < (t133.length : Int)
     ·rw [if_pos c16] at H
      have c16b0 : decide (1 < (t133.length : Int)) = true := decide_eq_true c16
      have c16b1 : decide (1 < t133.length) = true := decide_eq_true (by omega)
      clear c16
      by_cases c17 : 1 < (t129.length : Int)
      ·rw [if_pos c17] at H
       have c17b0 : decide (1 < (t129.length : Int)) = true := decide_eq_true c17
       have c17b1 : decide (1 < t129.length) = true := decide_eq_true (by omega)
       clear c17
       replace H := Option.bind_eq_some_iff.mp H
       obtain ⟨⟨t138, t139⟩, A180, H⟩ := H
       replace H : (if 0 < (t133.length : Int) then ((label_Number.f (rdOf ByteArray.empty t133 0)).bind fun bt141 => (if 2 < (t133.length : Int) then ((coin_Parse.f (rdOf ByteArray.empty t133 2)).bind fun bt144 => (if t139 = 0 then (if bt141.2 = 0 then (if bt144.2 = 0 then (if bt144.1 < 0 then (journal_first.j1 kj4 l0 bt144.1 true t138 bt141.1 (rdOf ByteArray.empty t133 1)) else (journal_first.j1 kj4 l0 bt144.1 (decide (bt144.1 > (wrap64 ((l0.length : Int) - 1)))) t138 bt141.1 (rdOf ByteArray.empty t133 1))) else (journal_first.j1 kj4 l0 bt144.1 true t138 bt141.1 (rdOf ByteArray.empty t133 1))) else (journal_first.j1 kj4 l0 bt144.1 true t138 bt141.1 (rdOf ByteArray.empty t133 1))) else (journal_first.j1 kj4 l0 bt144.1 true t138 bt141.1 (rdOf ByteArray.empty t133 1)))) else (none))) else (none)) = some (r1, r2, r3, r4, r5, r6) := H
       have A18 := a_ A180
       clear A180
       by_cases c19 : 0 < (t133.length : Int)
       ·rw [if_pos c19] at H
        have c19b0 : decide (0 < (t133.length : Int)) = true := decide_eq_true c19
        have c19b1 : decide (0 < t133.length) = true := decide_eq_true (by omega)
        clear c19
        replace H := Option.bind_eq_some_iff.mp H
        obtain ⟨⟨t141, t142⟩, A200, H⟩ := H
        replace H : (if 2 < (t133.length : Int) then ((coin_Parse.f (rdOf ByteArray.empty t133 2)).bind fun bt144 => (if t139 = 0 then (if t142 = 0 then (if bt144.2 = 0 then (if bt144.1 < 0 then (journal_first.j1 kj4 l0 bt144.1 true t138 t141 (rdOf ByteArray.empty t133 1)) else (journal_first.j1 kj4 l0 bt144.1 (decide (bt144.1 > (wrap64 ((l0.length : Int) - 1)))) t138 t141 (rdOf ByteArray.empty t133 1))) else (journal_first.j1 kj4 l0 bt144.1 true t138 t141 (rdOf ByteArray.empty t133 1))) else (journal_first.j1 kj4 l0 bt144.1 true t138 t141 (rdOf ByteArray.empty t133 1))) else (journal_first.j1 kj4 l0 bt144.1 true t138 t141 (rdOf ByteArray.empty t133 1)))) else (none)) = some (r1, r2, r3, r4, r5, r6) := H
        have A20 := a_ A200
        clear A200
        by_cases c21 : 2 < (t133.length : Int)
        ·rw [if_pos c21] at H
         have c21b0 : decide (2 < (t133.length : Int)) = true := decide_eq_true c21
         have c21b1 : decide (2 < t133.length) = true := decide_eq_true (by omega)
         clear c21
         replace H := Option.bind_eq_some_iff.mp H
         obtain ⟨⟨t144, t145⟩, A220, H⟩ := H
         replace H : (if t139 = 0 then (if t142 = 0 then (if t145 = 0 then (if t144 < 0 then (journal_first.j1 kj4 l0 t144 true t138 t141 (rdOf ByteArray.empty t133 1)) else (journal_first.j1 kj4 l0 t144 (decide (t144 > (wrap64 ((l0.length : Int) - 1)))) t138 t141 (rdOf ByteArray.empty t133 1))) else (journal_first.j1 kj4 l0 t144 true t138 t141 (rdOf ByteArray.empty t133 1))) else (journal_first.j1 kj4 l0 t144 true t138 t141 (rdOf ByteArray.empty t133 1))) else (journal_first.j1 kj4 l0 t144 true t138 t141 (rdOf ByteArray.empty t133 1))) = some (r1, r2, r3, r4, r5, r6) := H
         have A22 := a_ A220
         clear A220
         have HC23 := a_ H
         clear H
         obtain ⟨Ao24, co24, eo24⟩ := Kd.R_slice HO_6.out
         subst eo24
         have p136 : 0 ≤ (1 : Int) := (by omega)
         have q136 : 1 < (t133.length : Int) := of_decide_eq_true z70_
         obtain ⟨ad136, e136, hx136_0⟩ := Kd.at_string (Kd.R_reads' HO_6.out).2.2 1 p136 q136
         cases e136
         (try simp only [show (1 : Int).toNat = 1 from rfl, Nat.reduceMul, Nat.reduceEqDiff, Go.Addr.add, ↓reduceIte] at hx136_0)
         have qi136 : (1 < t133.length) = True := eq_true (by omega)
         (try rw [show ((1 : Int)).toNat = 1 from rfl] at hx136_0)
         replace p136 := eq_true p136
         replace q136 := eq_true q136
         have hcz25_0 : wc.cell? ⟨gb127, 0, none⟩ = some (.int .u64 0) := (blk_cell BK127.out 0).trans rfl
         have hcz25_1 : wc.cell? ⟨gb127, 1, none⟩ = some (.int .u64 0) := (blk_cell BK127.out 1).trans rfl
         have hcz25_2 : wc.cell? ⟨gb127, 2, none⟩ = some (.string (⟨#[]⟩ : ByteArray)) := (blk_cell BK127.out 2).trans rfl
         have hcz25_3 : wc.cell? ⟨gb127, 3, none⟩ = some (.slice none 0 0) := (blk_cell BK127.out 3).trans rfl
         have hfz25_0 := blk_frozen BK127.out 0
         have hfz25_1 := blk_frozen BK127.out 1
         have hfz25_2 := blk_frozen BK127.out 2
         have hfz25_3 := blk_frozen BK127.out 3
         obtain ⟨Ao26, co26, eo26⟩ := Kd.R_slice HO_5.out
         subst eo26
         have p137 : 0 ≤ (1 : Int) := (by omega)
         have q137 : 1 < (t129.length : Int) := of_decide_eq_true z70_
         obtain ⟨ad137, e137, hx137_0⟩ := Kd.at_string (Kd.R_reads' HO_5.out).2.2 1 p137 q137
         cases e137
         (try simp only [show (1 : Int).toNat = 1 from rfl, Nat.reduceMul, Nat.reduceEqDiff, Go.Addr.add, ↓reduceIte] at hx137_0)
         have qi137 : (1 < t129.length) = True := eq_true (by omega)
         (try rw [show ((1 : Int)).toNat = 1 from rfl] at hx137_0)
         have hn137_0 : ad137.block ≠ gb127 := Kd.own_blk (Kd.R_ne HO_5.out BK127.out (by decide))
         replace hx137_0 := (cell_far (p := ⟨gb127, 2, none⟩) (by first | (rw [add_block]; exact hn137_0) | (show (Addr.add _ _).block ≠ _; rw [add_block]; exact hn137_0) | exact hn137_0) (.string (rdOf ByteArray.empty t133 1))).trans hx137_0
         clear hn137_0
         replace p137 := eq_true p137
         replace q137 := eq_true q137
         go_upto_region 9 with (first | ((with_reducible refine gate_callee (f := 28) rfl ?_); refine goesL_ (some 42) rfl rfl Tryz.func28 z74_ rfl #[.string (rdOf ByteArray.empty t129 1)] rfl z19_ ?_; (with_reducible refine (label_Number.calls (rdOf ByteArray.empty t129 1) t138 t139 _ ?side1 A18.out).mono ?_); (case side1 => exact Glob.below HG.out z23_); rintro e w27 ⟨rfl, hb⟩; refine ⟨_, rfl, ?_⟩; have n0_ := a_ (Kd.R_below (by (with_reducible repeat (first | apply Kd.R_alloc | apply Kd.R_drewN | apply Kd.R_drew)); exact (Kd.R_mono (Kd.R_far (p := ⟨gb127, 2, none⟩) (Kd.R_types HO_5.out BK127.out (by decide)) (fun _ hk => hk.2) (.string (rdOf ByteArray.empty t133 1))) (fun _ h_ => h_.1))) hb); have n1_ := a_ (Kd.R_below (by (with_reducible repeat (first | apply Kd.R_alloc | apply Kd.R_drewN | apply Kd.R_drew)); exact (Kd.R_mono (Kd.R_far (p := ⟨gb127, 2, none⟩) (Kd.R_types HO_6.out BK127.out (by decide)) (fun _ hk => hk.2) (.string (rdOf ByteArray.empty t133 1))) (fun _ h_ => h_.1))) hb); have n2_ := a_ (blk_below (g := gb127) (o := .cells #[.int .u64 0, .int .u64 0, .string (rdOf ByteArray.empty t133 1), .slice none 0 0] 39 (0, 0)) (by (with_reducible repeat (first | refine kN_ ?_ _ | refine kD_ ?_ | refine kA_ ?_ _)); refine blk_put (cs := #[.int .u64 0, .int .u64 0, .string (⟨#[]⟩ : ByteArray), .slice none 0 0]) ?_ 2 _ rfl; (with_reducible repeat (first | refine kN_ ?_ _ | refine kD_ ?_ | refine kA_ ?_ _)); exact BK127.out) hb); have n3_ := a_ (below_step z23_ hb); clear HO_5; clear HO_6; clear BK127; clear HB; have HO_5 := n0_; have HO_6 := n1_; have BK127 := n2_; have HB := n3_; clear n0_ n1_ n2_ n3_; (try clear hb); (try clear hb2); (try clear hk); (try clear hi); have hcz28_0 : w27.cell? ⟨gb127, 0, none⟩ = some (.int .u64 0) := (blk_cell BK127.out 0).trans rfl; have hcz28_1 : w27.cell? ⟨gb127, 1, none⟩ = some (.int .u64 0) := (blk_cell BK127.out 1).trans rfl; have hcz28_2 : w27.cell? ⟨gb127, 2, none⟩ = some (.string (rdOf ByteArray.empty t133 1)) := (blk_cell BK127.out 2).trans rfl; have hcz28_3 : w27.cell? ⟨gb127, 3, none⟩ = some (.slice none 0 0) := (blk_cell BK127.out 3).trans rfl; have hfz28_0 := blk_frozen BK127.out 0; have hfz28_1 := blk_frozen BK127.out 1; have hfz28_2 := blk_frozen BK127.out 2; have hfz28_3 := blk_frozen BK127.out 3; have p140 : 0 ≤ (0 : Int) := (by omega); have q140 : 0 < (t133.length : Int) := of_decide_eq_true z70_; obtain ⟨ad140, e140, hx140_0⟩ := Kd.at_string (Kd.R_reads' HO_6.out).2.2 0 p140 q140; obtain rfl : ad136 = ad140 := (by injection e140); have qi140 : (0 < t133.length) = True := eq_true (by omega); (try rw [show ((0 : Int)).toNat = 0 from rfl] at hx140_0); (try rw [Addr.add_zero'] at hx140_0); have hn140_0 : ad136.block ≠ gb127 := Kd.own_blk (Kd.R_ne HO_6.out BK127.out (by decide)); replace hx140_0 := (cell_far (p := ⟨gb127, 0, none⟩) (by first | (rw [add_block]; exact hn140_0) | (show (Addr.add _ _).block ≠ _; rw [add_block]; exact hn140_0) | exact hn140_0) (.int .u64 t138)).trans hx140_0; clear hn140_0; replace p140 := eq_true p140; replace q140 := eq_true q140) | ((with_reducible refine gate_callee (f := 28) rfl ?_); refine goesL_ (some 50) rfl rfl Tryz.func28 z74_ rfl #[.string (rdOf ByteArray.empty t133 0)] rfl z19_ ?_; (with_reducible refine (label_Number.calls (rdOf ByteArray.empty t133 0) t141 t142 _ ?side1 A20.out).mono ?_); (case side1 => exact Glob.below HG.out z23_); rintro e w29 ⟨rfl, hb⟩; refine ⟨_, rfl, ?_⟩; have n0_ := a_ (Kd.R_below (by (with_reducible repeat (first | apply Kd.R_alloc | apply Kd.R_drewN | apply Kd.R_drew)); exact (Kd.R_mono (Kd.R_far (p := ⟨gb127, 0, none⟩) (Kd.R_types HO_5.out BK127.out (by decide)) (fun _ hk => hk.2) (.int .u64 t138)) (fun _ h_ => h_.1))) hb); have n1_ := a_ (Kd.R_below (by (with_reducible repeat (first | apply Kd.R_alloc | apply Kd.R_drewN | apply Kd.R_drew)); exact (Kd.R_mono (Kd.R_far (p := ⟨gb127, 0, none⟩) (Kd.R_types HO_6.out BK127.out (by decide)) (fun _ hk => hk.2) (.int .u64 t138)) (fun _ h_ => h_.1))) hb); have n2_ := a_ (blk_below (g := gb127) (o := .cells #[.int .u64 t138, .int .u64 0, .string (rdOf ByteArray.empty t133 1), .slice none 0 0] 39 (0, 0)) (by (with_reducible repeat (first | refine kN_ ?_ _ | refine kD_ ?_ | refine kA_ ?_ _)); refine blk_put (cs := #[.int .u64 0, .int .u64 0, .string (rdOf ByteArray.empty t133 1), .slice none 0 0]) ?_ 0 _ rfl; (with_reducible repeat (first | refine kN_ ?_ _ | refine kD_ ?_ | refine kA_ ?_ _)); exact BK127.out) hb); have n3_ := a_ (below_step z23_ hb); clear HO_5; clear HO_6; clear BK127; clear HB; have HO_5 := n0_; have HO_6 := n1_; have BK127 := n2_; have HB := n3_; clear n0_ n1_ n2_ n3_; (try clear hb); (try clear hb2); (try clear hk); (try clear hi); have hcz30_0 : w29.cell? ⟨gb127, 0, none⟩ = some (.int .u64 t138) := (blk_cell BK127.out 0).trans rfl; have hcz30_1 : w29.cell? ⟨gb127, 1, none⟩ = some (.int .u64 0) := (blk_cell BK127.out 1).trans rfl; have hcz30_2 : w29.cell? ⟨gb127, 2, none⟩ = some (.string (rdOf ByteArray.empty t133 1)) := (blk_cell BK127.out 2).trans rfl; have hcz30_3 : w29.cell? ⟨gb127, 3, none⟩ = some (.slice none 0 0) := (blk_cell BK127.out 3).trans rfl; have hfz30_0 := blk_frozen BK127.out 0; have hfz30_1 := blk_frozen BK127.out 1; have hfz30_2 := blk_frozen BK127.out 2; have hfz30_3 := blk_frozen BK127.out 3; have p143 : 0 ≤ (2 : Int) := (by omega); have q143 : 2 < (t133.length : Int) := of_decide_eq_true z70_; obtain ⟨ad143, e143, hx143_0⟩ := Kd.at_string (Kd.R_reads' HO_6.out).2.2 2 p143 q143; obtain rfl : ad136 = ad143 := (by injection e143); (try simp only [show (2 : Int).toNat = 2 from rfl, Nat.reduceMul, Nat.reduceEqDiff, Go.Addr.add, ↓reduceIte] at hx143_0); have qi143 : (2 < t133.length) = True := eq_true (by omega); (try rw [show ((2 : Int)).toNat = 2 from rfl] at hx143_0); have hn143_0 : ad136.block ≠ gb127 := Kd.own_blk (Kd.R_ne HO_6.out BK127.out (by decide)); replace hx143_0 := (cell_far (p := ⟨gb127, 1, none⟩) (by first | (rw [add_block]; exact hn143_0) | (show (Addr.add _ _).block ≠ _; rw [add_block]; exact hn143_0) | exact hn143_0) (.int .u64 t141)).trans hx143_0; clear hn143_0; replace p143 := eq_true p143; replace q143 := eq_true q143) | ((with_reducible refine gate_callee (f := 29) rfl ?_); refine goesL_ (some 58) rfl rfl Tryz.func29 z74_ rfl #[.string (rdOf ByteArray.empty t133 2)] rfl z19_ ?_; (with_reducible refine (coin_Parse.calls (rdOf ByteArray.empty t133 2) t144 t145 _ ?side1 A22.out).mono ?_); (case side1 => exact Glob.below HG.out z23_); rintro e w31 ⟨rfl, hb⟩; refine ⟨_, rfl, ?_⟩; have n0_ := a_ (Kd.R_below (by (with_reducible repeat (first | apply Kd.R_alloc | apply Kd.R_drewN | apply Kd.R_drew)); exact (Kd.R_mono (Kd.R_far (p := ⟨gb127, 1, none⟩) (Kd.R_types HO_5.out BK127.out (by decide)) (fun _ hk => hk.2) (.int .u64 t141)) (fun _ h_ => h_.1))) hb); have n1_ := a_ (Kd.R_below (by (with_reducible repeat (first | apply Kd.R_alloc | apply Kd.R_drewN | apply Kd.R_drew)); exact (Kd.R_mono (Kd.R_far (p := ⟨gb127, 1, none⟩) (Kd.R_types HO_6.out BK127.out (by decide)) (fun _ hk => hk.2) (.int .u64 t141)) (fun _ h_ => h_.1))) hb); have n2_ := a_ (blk_below (g := gb127) (o := .cells #[.int .u64 t138, .int .u64 t141, .string (rdOf ByteArray.empty t133 1), .slice none 0 0] 39 (0, 0)) (by (with_reducible repeat (first | refine kN_ ?_ _ | refine kD_ ?_ | refine kA_ ?_ _)); refine blk_put (cs := #[.int .u64 t138, .int .u64 0, .string (rdOf ByteArray.empty t133 1), .slice none 0 0]) ?_ 1 _ rfl; (with_reducible repeat (first | refine kN_ ?_ _ | refine kD_ ?_ | refine kA_ ?_ _)); exact BK127.out) hb); have n3_ := a_ (below_step z23_ hb); clear HO_5; clear HO_6; clear BK127; clear HB; have HO_5 := n0_; have HO_6 := n1_; have BK127 := n2_; have HB := n3_; clear n0_ n1_ n2_ n3_; (try clear hb); (try clear hb2); (try clear hk); (try clear hi)))
         (try simp only [Act.put, sT_, s0_, sS_])
         go_cut [81] (fun v81 wc => ∃ (kq : Nat) (x81_22 : Bool), v81 = .bool x81_22 ∧ Aside0 (journal_first.j1 kq l0 t144 x81_22 t138 t141 (rdOf ByteArray.empty t133 1) = some (r1, r2, r3, r4, r5, r6)) ∧ Aside0 (kq ≤ kj4) ∧ Aside0 (wc.heap[gb127]? = some (.cells #[.int .u64 t138, .int .u64 t141, .string (rdOf ByteArray.empty t133 1), (.slice none 0 0)] 39 (0, 0))) ∧ Aside0 (Below w.heap.size w wc))
         case first =>
          have H := HC23.out
          clear HC23
          by_cases c32 : t139 = 0
          ·rw [if_pos c32] at H
           have c32b0 : (t139 == 0) = true := beq_iff_eq.mpr c32
           have c32b1 : (t139 != 0) = false := bne_eq_false_iff_eq.mpr c32
           clear c32
           (first | rw [c32b0] | (simp only [i64_w, i32_w]; rw [c32b0]) | skip)
           by_cases c33 : t142 = 0
           ·rw [if_pos c33] at H
            have c33b0 : (t142 == 0) = true := beq_iff_eq.mpr c33
            have c33b1 : (t142 != 0) = false := bne_eq_false_iff_eq.mpr c33
            clear c33
            by_cases c34 : t145 = 0
            ·rw [if_pos c34] at H
             have c34b0 : (t145 == 0) = true := beq_iff_eq.mpr c34
             have c34b1 : (t145 != 0) = false := bne_eq_false_iff_eq.mpr c34
             clear c34
             by_cases c35 : t144 < 0
             ·rw [if_pos c35] at H
              have c35b0 : decide (t144 < 0) = true := decide_eq_true c35
              clear c35
              have H' := a_ H
              clear H
              go_wp2
              go_meet
              case rel => exact ⟨_, (true), z71_, H', ⟨z69_⟩, ⟨z52_⟩, ⟨z23_⟩⟩
             ·rw [if_neg c35] at H
              have c35b0 : decide (t144 < 0) = false := decide_eq_false c35
              clear c35
              have H' := a_ H
              clear H
              go_wp2
              go_meet
              case rel => exact ⟨_, (decide (t144 > (wrap64 ((l0.length : Int) - 1)))), z71_, H', ⟨z69_⟩, ⟨z52_⟩, ⟨z23_⟩⟩
            ·rw [if_neg c34] at H
             have c34b0 : (t145 == 0) = false := beq_eq_false_iff_ne.mpr c34
             have c34b1 : (t145 != 0) = true := bne_iff_ne.mpr c34
             have H' := a_ H
             clear H
             go_wp2
             go_meet
             case rel => exact ⟨_, (true), z71_, H', ⟨z69_⟩, ⟨z52_⟩, ⟨z23_⟩⟩
           ·rw [if_neg c33] at H
            have c33b0 : (t142 == 0) = false := beq_eq_false_iff_ne.mpr c33
            have c33b1 : (t142 != 0) = true := bne_iff_ne.mpr c33
            have H' := a_ H
            clear H
            go_wp2
            go_meet
            case rel => exact ⟨_, (true), z71_, H', ⟨z69_⟩, ⟨z52_⟩, ⟨z23_⟩⟩
          ·rw [if_neg c32] at H
           have c32b0 : (t139 == 0) = false := beq_eq_false_iff_ne.mpr c32
           have c32b1 : (t139 != 0) = true := bne_iff_ne.mpr c32
           (first | rw [c32b0] | (simp only [i64_w, i32_w]; rw [c32b0]) | skip)
           have H' := a_ H
           clear H
           go_wp2
           go_meet
           case rel => exact ⟨_, (true), z71_, H', ⟨z69_⟩, ⟨z52_⟩, ⟨z23_⟩⟩
         case rest =>
          clear HC23
          try clear c1
          try clear p1
          try clear q1
          try clear hx1
          try clear qi1
          try clear c2
          try clear c2b0
          try clear c2b1
          try clear p2
          try clear c3
          try clear p6
          try clear c10
          try clear c10b0
          try clear c10b1
          try clear c12
          try clear p12
          try clear q12
          try clear hx12
          try clear qi12
          try clear p13
          try clear q13
          try clear hx13
          try clear qi13
          try clear c14
          try clear p14
          try clear q14
          try clear hx14
          try clear qi14
          try clear c16
          try clear c16b0
          try clear c16b1
          try clear c17
          try clear c17b0
          try clear c17b1
          try clear c19
          try clear c19b0
          try clear c19b1
          try clear c21
          try clear c21b0
          try clear c21b1
          try clear c27
          try clear c28
          try clear c29
          try clear c32
          try clear c32b0
          try clear c32b1
          try clear c33
          try clear c33b0
          try clear c33b1
          try clear c34
          try clear c34b0
          try clear c34b1
          try clear c35
          try clear c35b0
          try clear hcz15_0
          try clear hcz15_1
          try clear hcz15_2
          try clear hcz15_3
          try clear hcz25_0
          try clear hcz25_1
          try clear hcz25_2
          try clear hcz25_3
          try clear hcz28_0
          try clear hcz28_1
          try clear hcz28_2
          try clear hcz28_3
          try clear hcz30_0
          try clear hcz30_1
          try clear hcz30_2
          try clear hcz30_3
          try clear hfz15_0
          try clear hfz15_1
          try clear hfz15_2
          try clear hfz15_3
          try clear hfz25_0
          try clear hfz25_1
          try clear hfz25_2
          try clear hfz25_3
          try clear hfz28_0
          try clear hfz28_1
          try clear hfz28_2
          try clear hfz28_3
          try clear hfz30_0
          try clear hfz30_1
          try clear hfz30_2
          try clear hfz30_3
          try clear hx128_0
          try clear hx128_1
          try clear hx132_0
          try clear hx132_1
          try clear hx136_0
          try clear hx137_0
          try clear hx140_0
          try clear hx143_0
          try clear p1
          try clear p12
          try clear p128
          try clear p13
          try clear p132
          try clear p136
          try clear p137
          try clear p140
          try clear p143
          try clear p2
          try clear q1
          try clear q12
          try clear q128
          try clear q13
          try clear q132
          try clear q136
          try clear q137
          try clear q140
          try clear q143
          obtain ⟨kq, x81_22, rfl, HA, HJ22, BK127, HB⟩ := hcut
          cases kq with
          | zero => exact absurd HA.out (by simp [journal_first.j1])
          | succ kj22 =>
           have H := HA.out
           clear HA
           simp only [journal_first.j1] at H
           by_cases c36 : x81_22 = true
           ·subst c36
            have H1 : (some (t138, t141, (rdOf ByteArray.empty t133 1), ([] : List (S36)), 0, false)) = some (r1, r2, r3, r4, r5, r6) := by rw [if_pos rfl] at H; exact H
            clear H
            have H := H1
            clear H1
            simp only [Option.some.injEq, Prod.mk.injEq] at H
            obtain ⟨rfl, rfl, rfl, rfl, rfl, rfl⟩ := H
            have hcz37_0 : wc.cell? ⟨gb127, 0, none⟩ = some (.int .u64 t138) := (blk_cell BK127.out 0).trans rfl
            have hcz37_1 : wc.cell? ⟨gb127, 1, none⟩ = some (.int .u64 t141) := (blk_cell BK127.out 1).trans rfl
            have hcz37_2 : wc.cell? ⟨gb127, 2, none⟩ = some (.string (rdOf ByteArray.empty t133 1)) := (blk_cell BK127.out 2).trans rfl
            have hcz37_3 : wc.cell? ⟨gb127, 3, none⟩ = some (.slice none 0 0) := (blk_cell BK127.out 3).trans rfl
            have hfz37_0 := blk_frozen BK127.out 0
            have hfz37_1 := blk_frozen BK127.out 1
            have hfz37_2 := blk_frozen BK127.out 2
            have hfz37_3 := blk_frozen BK127.out 3
            go_wp2
            refine bodyPost_ret (results_ctt rfl _ _ gb127 39 #[.int .u64 t138, .int .u64 t141, .string (rdOf ByteArray.empty t133 1), .slice none 0 0] (0, 0) _ rfl (by (with_reducible repeat (first | refine kN_ ?_ _ | refine kD_ ?_ | refine kA_ ?_ _)); refine blk_put (cs := #[.int .u64 t138, .int .u64 t141, .string (rdOf ByteArray.empty t133 1), .slice none 0 0]) ?_ 3 _ rfl; (with_reducible repeat (first | refine kN_ ?_ _ | refine kD_ ?_ | refine kA_ ?_ _)); refine blk_put (cs := #[.int .u64 t138, .int .u64 t141, .string (rdOf ByteArray.empty t133 1), .slice none 0 0]) ?_ 2 _ rfl; (with_reducible repeat (first | refine kN_ ?_ _ | refine kD_ ?_ | refine kA_ ?_ _)); refine blk_put (cs := #[.int .u64 t138, .int .u64 t141, .string (rdOf ByteArray.empty t133 1), .slice none 0 0]) ?_ 1 _ rfl; (with_reducible repeat (first | refine kN_ ?_ _ | refine kD_ ?_ | refine kA_ ?_ _)); refine blk_put (cs := #[.int .u64 t138, .int .u64 t141, .string (rdOf ByteArray.empty t133 1), .slice none 0 0]) ?_ 0 _ rfl; (with_reducible repeat (first | refine kN_ ?_ _ | refine kD_ ?_ | refine kA_ ?_ _)); exact BK127.out) Tryz.underlying39 rfl z74_) rfl ?_
            exact ⟨_, z64_, z18_, z23_⟩
           ·replace c36 := Bool.eq_false_iff.mpr c36
            subst c36
            have H1 : (if 1 ≤ (wrap64 (1 + t144)) then (if (wrap64 (1 + t144)) ≤ (l0.length : Int) then ((some ((l0.take ((wrap64 (1 + t144)) : Int).toNat).drop 1 : List (S26))).bind fun y146 => (journal_first.l0 kj22 t144 y146 (y146.length : Int) 0 t138 t141 (rdOf ByteArray.empty t133 1) ([] : List (S36)))) else (none)) else (none)) = some (r1, r2, r3, r4, r5, r6) := by rw [if_neg (show ¬ (false = true) by decide)] at H; exact H
            clear H
            have H := H1
            clear H1
            by_cases c38 : 1 ≤ (wrap64 (1 + t144))
            ·rw [if_pos c38] at H
             have c38b0 := eq_true c38
             have c38b1 : decide (1 ≤ (wrap64 (1 + t144))) = true := decide_eq_true c38
             by_cases c39 : (wrap64 (1 + t144)) ≤ (l0.length : Int)
             ·rw [if_pos c39] at H
              have c39b0 := eq_true c39
              have c39b1 : decide ((wrap64 (1 + t144)) ≤ (l0.length : Int)) = true := decide_eq_true c39
              obtain ⟨y146, hy146⟩ : ∃ y_ : List (S26), y_ = ((l0.take ((wrap64 (1 + t144)) : Int).toNat).drop 1) := ⟨_, rfl⟩
              replace H : (journal_first.l0 kj22 t144 y146 (y146.length : Int) 0 t138 t141 (rdOf ByteArray.empty t133 1) ([] : List (S36))) = some (r1, r2, r3, r4, r5, r6) := by first | (rw [hy146]; with_reducible exact H) | (have H2_ := (Option.bind_some _ _).symm.trans H; rw [hy146]; with_reducible exact H2_) | (have H2_ := (Option.bind_some _ _).symm.trans H; with_reducible exact H2_) | with_reducible exact H | (rw [hy146]; exact H) | exact H
              have Ny146 := a_ hy146
              clear hy146
              have H' := a_ H
              clear H
              have q40 : ((wrap64 (1 + t144)) : Int) ≤ ((l0.length : Int) : Int) := of_decide_eq_true z70_
              obtain ⟨i040, hi040, _, hsz40, _⟩ := info_parts info26
              have hroom40 : l0.length ≤ c0 := HC0.out
              have hC40 : Kd.C k26 _ (some ad128) l0.length l0 := HR0.out
              have ql40 : (1 : Int) ≤ ((wrap64 (1 + t144)) : Int) := of_decide_eq_true z70_
              have hcut40 := cut_mid (P := Tryz.prog) 22 26 .i64 .i64 Tryz.underlying22 hi040 2 hsz40 (some ad128) l0.length c0 1 (wrap64 (1 + t144)) (by omega) ql40 q40 hroom40
              have hr40 := Kd.C_mid (lo := (1 : Int).toNat) (hi := ((wrap64 (1 + t144)) : Int).toNat) (c := c0) hC40 (by omega) (by omega) hroom40
              obtain ⟨A40, hA40⟩ : ∃ A1, A1 = (if c0 = (1 : Int).toNat then (some ad128) else ((some ad128) : Option Addr).map (·.add ((1 : Int).toNat * 2))) := ⟨_, rfl⟩
              obtain ⟨c40, hc40⟩ : ∃ c1, c1 = c0 - (1 : Int).toNat := ⟨_, rfl⟩
              have hy40 : y146.length = ((wrap64 (1 + t144)) : Int).toNat - (1 : Int).toNat := (by rw [Ny146.out, List.length_drop, List.length_take] <;> omega)
              rw [show ((l0).take ((wrap64 (1 + t144)) : Int).toNat).drop (1 : Int).toNat = y146 from Ny146.out.symm] at hr40
              replace hr40 : Kd.C k26 _ A40 y146.length y146 := (by rw [hA40]; exact hr40)
              rw [← hy40, ← hA40, ← hc40] at hcut40
              have HR149 := a_ hr40
              have HC149 := a_ (show y146.length ≤ c40 from by rw [hy40, hc40]; exact Nat.sub_le_sub_right (Nat.le_trans (by omega) hroom40) _)
              clear hr40 hC40 hroom40 hi040 hsz40 hc40
              have KY40 := a_ hy40
              have KA40 := a_ hA40
              clear hy40 hA40
              replace q40 := eq_true q40
              go_wp2
              go_loopg [88] kj22 (fun kq v88 w' => ∃ (x88_3 : Int) (x128000_3 : Int) (x128001_3 : Int) (x128002_3 : ByteArray) (x128003_3 : List (S36)) (u128003 : Value), v88 = .int .i64 x88_3 ∧ Aside0 (journal_first.l0 kq t144 y146 (y146.length : Int) x88_3 x128000_3 x128001_3 x128002_3 x128003_3 = some (r1, r2, r3, r4, r5, r6)) ∧ Aside0 (kq ≤ kj22) ∧ Aside0 (Kd.R k36 36 w' w.heap.size (fun _ => True) u128003 x128003_3) ∧ Aside0 (w'.heap[gb127]? = some (.cells #[.int .u64 x128000_3, .int .u64 x128001_3, .string x128002_3, u128003] 39 (0, 0))) ∧ Aside0 (Below w.heap.size w w'))
              case atStart => exact ⟨(0), (t138), (t141), ((rdOf ByteArray.empty t133 1)), (([] : List (S36))), (.slice none 0 0), z71_, H', ⟨Nat.le_refl _⟩, ⟨z18_⟩, ⟨z52_⟩, ⟨z23_⟩⟩
              case round =>
               clear H'
               try clear c1
               try clear p1
               try clear q1
               try clear hx1
               try clear qi1
               try clear c2
               try clear c2b0
               try clear c2b1
               try clear p2
               try clear c3
               try clear c4
               try clear q4
               try clear p6
               try clear c10
               try clear c10b0
               try clear c10b1
               try clear c12
               try clear p12
               try clear q12
               try clear hx12
               try clear qi12
               try clear p13
               try clear q13
               try clear hx13
               try clear qi13
               try clear c14
               try clear p14
               try clear q14
               try clear hx14
               try clear qi14
               try clear c16
               try clear c16b0
               try clear c16b1
               try clear c17
               try clear c17b0
               try clear c17b1
               try clear c19
               try clear c19b0
               try clear c19b1
               try clear c21
               try clear c21b0
               try clear c21b1
               try clear c27
               try clear c28
               try clear c29
               try clear c32
               try clear c32b0
               try clear c32b1
               try clear c33
               try clear c33b0
               try clear c33b1
               try clear c34
               try clear c34b0
               try clear c34b1
               try clear c35
               try clear c35b0
               try clear c36
               try clear c38
               try clear c38b0
               try clear c38b1
               try clear c39
               try clear c39b0
               try clear c39b1
               try clear c40
               try clear q40
               try clear hcz15_0
               try clear hcz15_1
               try clear hcz15_2
               try clear hcz15_3
               try clear hcz25_0
               try clear hcz25_1
               try clear hcz25_2
               try clear hcz25_3
               try clear hcz28_0
               try clear hcz28_1
               try clear hcz28_2
               try clear hcz28_3
               try clear hcz30_0
               try clear hcz30_1
               try clear hcz30_2
               try clear hcz30_3
               try clear hcz37_0
               try clear hcz37_1
               try clear hcz37_2
               try clear hcz37_3
               try clear hfz15_0
               try clear hfz15_1
               try clear hfz15_2
               try clear hfz15_3
               try clear hfz25_0
               try clear hfz25_1
               try clear hfz25_2
               try clear hfz25_3
               try clear hfz28_0
               try clear hfz28_1
               try clear hfz28_2
               try clear hfz28_3
               try clear hfz30_0
               try clear hfz30_1
               try clear hfz30_2
               try clear hfz30_3
               try clear hfz37_0
               try clear hfz37_1
               try clear hfz37_2
               try clear hfz37_3
               try clear hx128_0
               try clear hx128_1
               try clear hx132_0
               try clear hx132_1
               try clear hx136_0
               try clear hx137_0
               try clear hx140_0
               try clear hx143_0
               try clear p1
               try clear p12
               try clear p128
               try clear p13
               try clear p132
               try clear p136
               try clear p137
               try clear p14
               try clear p140
               try clear p143
               try clear p2
               try clear p6
               try clear q1
               try clear q12
               try clear q128
               try clear q13
               try clear q132
               try clear q136
               try clear q137
               try clear q14
               try clear q140
               try clear q143
               try clear q40
               obtain ⟨x88_3, x128000_3, x128001_3, x128002_3, x128003_3, u128003, rfl, HA, HK3, HO_128003, BK127, HB⟩ := hrel
               cases gk with
               | zero => exact absurd HA.out (by simp [journal_first.l0])
               | succ k3 =>
                have H := HA.out
                clear HA
                simp only [journal_first.l0] at H
                by_cases c41 : x88_3 < (y146.length : Int)
                ·rw [if_pos c41] at H
                 have c41b0 : decide (x88_3 < (y146.length : Int)) = true := decide_eq_true c41
                 clear c41
                 by_cases c42 : 0 ≤ x88_3
                 ·rw [if_pos c42] at H
                  have c42b0 : decide (0 ≤ x88_3) = true := decide_eq_true c42
                  clear c42
                  by_cases c43 : x88_3 < (y146.length : Int)
                  ·rw [if_pos c43] at H
                   have c43b0 : decide (x88_3 < (y146.length : Int)) = true := decide_eq_true c43
                   clear c43
                   replace H := Option.bind_eq_some_iff.mp H
                   obtain ⟨⟨t152, t153, t154, t155⟩, A440, H⟩ := H
                   replace H : (if t155 = true then (if x128003_3.length < 3518437208883 then (journal_first.l0 k3 t144 y146 (y146.length : Int) (wrap64 (x88_3 + 1)) x128000_3 x128001_3 x128002_3 (x128003_3 ++ [(⟨t152, t153, t154⟩ : S36)])) else (none)) else (some (x128000_3, x128001_3, x128002_3, x128003_3, 0, false))) = some (r1, r2, r3, r4, r5, r6) := H
                   have A44 := a_ A440
                   clear A440
                   by_cases c45 : t155 = true
                   ·subst c45
                    have H1 : (if x128003_3.length < 3518437208883 then (journal_first.l0 k3 t144 y146 (y146.length : Int) (wrap64 (x88_3 + 1)) x128000_3 x128001_3 x128002_3 (x128003_3 ++ [(⟨t152, t153, t154⟩ : S36)])) else (none)) = some (r1, r2, r3, r4, r5, r6) := by rw [if_pos rfl] at H; exact H
                    clear H
                    have H := H1
                    clear H1
                    by_cases c46 : x128003_3.length < 3518437208883
                    ·rw [if_pos c46] at H
                     have LMc46 := a_ c46
                     clear c46
                     obtain ⟨y157, hy157⟩ : ∃ y_ : List (S36), y_ = (x128003_3 ++ [(⟨t152, t153, t154⟩ : S36)]) := ⟨_, rfl⟩
                     replace H : (journal_first.l0 k3 t144 y146 (y146.length : Int) (wrap64 (x88_3 + 1)) x128000_3 x128001_3 x128002_3 y157) = some (r1, r2, r3, r4, r5, r6) := by first | (rw [hy157]; with_reducible exact H) | (have H2_ := (Option.bind_some _ _).symm.trans H; rw [hy157]; with_reducible exact H2_) | (have H2_ := (Option.bind_some _ _).symm.trans H; with_reducible exact H2_) | with_reducible exact H | (rw [hy157]; exact H) | exact H
                     have Ny157 := a_ hy157
                     clear hy157
                     have H' := a_ H
                     clear H
                     have p150 : 0 ≤ (x88_3 : Int) := of_decide_eq_true z70_
                     have q150 : x88_3 < (y146.length : Int) := of_decide_eq_true z70_
                     obtain ⟨ad150, e150, hx150_0, hx150_1⟩ := at_T26 HR149.out x88_3 p150 q150
                     cases e150
                     replace hx150_0 := (HB.out.cell (World.block_lt_of_cell? w _ hx150_0)).trans hx150_0
                     replace hx150_1 := (HB.out.cell (World.block_lt_of_cell? w _ hx150_1)).trans hx150_1
                     replace p150 := eq_true p150
                     replace q150 := eq_true q150
                     go_wp2_with (first | ((with_reducible refine gate_dst (N := 12) rfl ?_); (try (refine gate_guard (by rfl) ?_; dsimp only)); refine box_event ?hg (N := 12) ?hd (cs := #[.string (⟨#[]⟩ : ByteArray), .string (⟨#[]⟩ : ByteArray)]) (t := 26) ?hr ?_; (case hd => rfl); (case hg => rfl); (case hr => first | (go_simp; done) | (go_simp; rfl)); intro gb151 hg w47 hbox hb; have n0_ := a_ (Kd.R_below z31_ hb); have n1_ := a_ (blk_below (g := gb127) (o := .cells #[.int .u64 x128000_3, .int .u64 x128001_3, .string x128002_3, u128003] 39 (0, 0)) z52_ hb); have n2_ := a_ (below_step z23_ hb); have n3_ := a_ (hbox); have n4_ := a_ ((z8_ : w.heap.size ≤ gb151)); have n5_ := a_ ((z8_ : w.heap.size ≤ gb151)); have n6_ := a_ ((by rw [hg]; exact Nat.ne_of_lt (blk_lt (g := gb127) (o := .cells #[.int .u64 x128000_3, .int .u64 x128001_3, .string x128002_3, u128003] 39 (0, 0)) z52_) : gb127 ≠ gb151)); have n7_ := a_ ((by rw [hg]; exact Nat.ne_of_gt (blk_lt (g := gb127) (o := .cells #[.int .u64 x128000_3, .int .u64 x128001_3, .string x128002_3, u128003] 39 (0, 0)) z52_) : gb151 ≠ gb127)); clear HO_128003; clear BK127; clear HB; have HO_128003 := n0_; have BK127 := n1_; have HB := n2_; have BK151 := n3_; have GW151 := n4_; have GE151 := n5_; have NB127_151 := n6_; have NB151_127 := n7_; clear n0_ n1_ n2_ n3_ n4_ n5_ n6_ n7_; clear hb hbox hg; have hnb48 := NB151_127.out; have hnc48 := NB127_151.out; have hcz49_0 : w47.cell? ⟨gb151, 0, none⟩ = some (.string (⟨#[]⟩ : ByteArray)) := (blk_cell BK151.out 0).trans rfl; have hcz49_1 : w47.cell? ⟨gb151, 1, none⟩ = some (.string (⟨#[]⟩ : ByteArray)) := (blk_cell BK151.out 1).trans rfl; have hfz49_0 := blk_frozen BK151.out 0; have hfz49_1 := blk_frozen BK151.out 1) | ((with_reducible refine gate_callee (f := 30) rfl ?_); refine goesL_ (some 94) rfl rfl Tryz.func30 z74_ rfl #[.agg #[.string ((rd_T26 y146 x88_3).f0), .string ((rd_T26 y146 x88_3).f1)]] rfl z19_ ?_; (with_reducible refine (journal_leg.calls ((rd_T26 y146 x88_3).f0) ((rd_T26 y146 x88_3).f1) t152 t153 t154 true _ ?side1 A44.out).mono ?_); (case side1 => exact Glob.below HG.out z12_); rintro e w50 ⟨rfl, hb⟩; refine ⟨_, rfl, ?_⟩; have n0_ := a_ (Kd.R_below (by (with_reducible repeat (first | apply Kd.R_alloc | apply Kd.R_drewN | apply Kd.R_drew)); exact (Kd.R_mono (Kd.R_far (p := ⟨gb151, 1, none⟩) (Kd.R_far (p := ⟨gb151, 0, none⟩) (Kd.R_types HO_128003.out BK151.out (by decide)) (fun _ hk => hk.2) (.string ((rd_T26 y146 x88_3).f0))) (fun _ hk => hk.2) (.string ((rd_T26 y146 x88_3).f1))) (fun _ h_ => h_.1))) hb); have n1_ := a_ (blk_below (g := gb127) (o := .cells #[.int .u64 x128000_3, .int .u64 x128001_3, .string x128002_3, u128003] 39 (0, 0)) (by (with_reducible repeat (first | refine kN_ ?_ _ | refine kD_ ?_ | refine kA_ ?_ _)); refine blk_far ?_ NB127_151.out _; (with_reducible repeat (first | refine kN_ ?_ _ | refine kD_ ?_ | refine kA_ ?_ _)); refine blk_far ?_ NB127_151.out _; (with_reducible repeat (first | refine kN_ ?_ _ | refine kD_ ?_ | refine kA_ ?_ _)); exact BK127.out) hb); have n2_ := a_ (blk_below (g := gb151) (o := .cells #[.string ((rd_T26 y146 x88_3).f0), .string ((rd_T26 y146 x88_3).f1)] 26 (0, 0)) (by (with_reducible repeat (first | refine kN_ ?_ _ | refine kD_ ?_ | refine kA_ ?_ _)); refine blk_put (cs := #[.string ((rd_T26 y146 x88_3).f0), .string (⟨#[]⟩ : ByteArray)]) ?_ 1 _ rfl; (with_reducible repeat (first | refine kN_ ?_ _ | refine kD_ ?_ | refine kA_ ?_ _)); refine blk_put (cs := #[.string (⟨#[]⟩ : ByteArray), .string (⟨#[]⟩ : ByteArray)]) ?_ 0 _ rfl; (with_reducible repeat (first | refine kN_ ?_ _ | refine kD_ ?_ | refine kA_ ?_ _)); exact BK151.out) hb); have n3_ := a_ (below_step z12_ hb); clear HO_128003; clear BK127; clear BK151; clear HB; have HO_128003 := n0_; have BK127 := n1_; have BK151 := n2_; have HB := n3_; clear n0_ n1_ n2_ n3_; (try clear hb); (try clear hb2); (try clear hk); (try clear hi)) | ((with_reducible refine gate_dst (N := 13) rfl ?_); (try (refine gate_guard (by rfl) ?_; dsimp only)); refine box_event ?hg (N := 13) ?hd (cs := #[.string (⟨#[]⟩ : ByteArray), .string (⟨#[]⟩ : ByteArray), .int .i64 0]) (t := 36) ?hr ?_; (case hd => rfl); (case hg => rfl); (case hr => first | (go_simp; done) | (go_simp; rfl)); intro gb156 hg w51 hbox hb; have n0_ := a_ (Kd.R_below (Kd.R_elderB z31_ gb156 (Nat.le_of_eq hg.symm)) hb); have n1_ := a_ (blk_below (g := gb127) (o := .cells #[.int .u64 x128000_3, .int .u64 x128001_3, .string x128002_3, u128003] 39 (0, 0)) z52_ hb); have n2_ := a_ (blk_below (g := gb151) (o := .cells #[.string ((rd_T26 y146 x88_3).f0), .string ((rd_T26 y146 x88_3).f1)] 26 (0, 0)) z53_ hb); have n3_ := a_ (below_step z12_ hb); have n4_ := a_ (hbox); have n5_ := a_ ((z5_ : w.heap.size ≤ gb156)); have n6_ := a_ ((z5_ : w.heap.size ≤ gb156)); have n7_ := a_ ((by rw [hg]; exact Nat.ne_of_lt (blk_lt (g := gb127) (o := .cells #[.int .u64 x128000_3, .int .u64 x128001_3, .string x128002_3, u128003] 39 (0, 0)) z52_) : gb127 ≠ gb156)); have n8_ := a_ ((by rw [hg]; exact Nat.ne_of_gt (blk_lt (g := gb127) (o := .cells #[.int .u64 x128000_3, .int .u64 x128001_3, .string x128002_3, u128003] 39 (0, 0)) z52_) : gb156 ≠ gb127)); have n9_ := a_ ((by rw [hg]; exact Nat.ne_of_lt (blk_lt (g := gb151) (o := .cells #[.string ((rd_T26 y146 x88_3).f0), .string ((rd_T26 y146 x88_3).f1)] 26 (0, 0)) z53_) : gb151 ≠ gb156)); have n10_ := a_ ((by rw [hg]; exact Nat.ne_of_gt (blk_lt (g := gb151) (o := .cells #[.string ((rd_T26 y146 x88_3).f0), .string ((rd_T26 y146 x88_3).f1)] 26 (0, 0)) z53_) : gb156 ≠ gb151)); clear HO_128003; clear BK127; clear BK151; clear HB; have HO_128003 := n0_; have BK127 := n1_; have BK151 := n2_; have HB := n3_; have BK156 := n4_; have GW156 := n5_; have GE156 := n6_; have NB127_156 := n7_; have NB156_127 := n8_; have NB151_156 := n9_; have NB156_151 := n10_; clear n0_ n1_ n2_ n3_ n4_ n5_ n6_ n7_ n8_ n9_ n10_; clear hb hbox hg; have hnb52 := NB156_127.out; have hnc52 := NB127_156.out; have hnb53 := NB156_151.out; have hnc53 := NB151_156.out; have hcz54_0 : w51.cell? ⟨gb156, 0, none⟩ = some (.string (⟨#[]⟩ : ByteArray)) := (blk_cell BK156.out 0).trans rfl; have hcz54_1 : w51.cell? ⟨gb156, 1, none⟩ = some (.string (⟨#[]⟩ : ByteArray)) := (blk_cell BK156.out 1).trans rfl; have hcz54_2 : w51.cell? ⟨gb156, 2, none⟩ = some (.int .i64 0) := (blk_cell BK156.out 2).trans rfl; have hfz54_0 := blk_frozen BK156.out 0; have hfz54_1 := blk_frozen BK156.out 1; have hfz54_2 := blk_frozen BK156.out 2; have hcz55_0 : w51.cell? ⟨gb127, 0, none⟩ = some (.int .u64 x128000_3) := (blk_cell BK127.out 0).trans rfl; have hcz55_1 : w51.cell? ⟨gb127, 1, none⟩ = some (.int .u64 x128001_3) := (blk_cell BK127.out 1).trans rfl; have hcz55_2 : w51.cell? ⟨gb127, 2, none⟩ = some (.string x128002_3) := (blk_cell BK127.out 2).trans rfl; have hcz55_3 : w51.cell? ⟨gb127, 3, none⟩ = some (u128003) := (blk_cell BK127.out 3).trans rfl; have hfz55_0 := blk_frozen BK127.out 0; have hfz55_1 := blk_frozen BK127.out 1; have hfz55_2 := blk_frozen BK127.out 2; have hfz55_3 := blk_frozen BK127.out 3) | ((with_reducible refine gate_builtin (b := .append) (xs := #[.tmp 101, .tmp 103]) rfl ?_); (try (refine gate_guard (by rfl) ?_; dsimp only)); at_builtin; refine Kd.R_append k36 (w0 := w) w.heap.size rfl (.tmp 101) (.tmp 103) 37 36 (.agg #[(.string ⟨#[]⟩), (.string ⟨#[]⟩), (.int .i64 0)]) 40 rfl Tryz.underlying37 info36 rfl (by decide) (by omega) u128003 x128003_3 (⟨t152, t153, t154⟩ : S36) [.string t152, .string t153, .int .i64 t154] (fun k_ => k_ ≠ gb156) (fun _ => False) rfl (by first | (go_simp; done) | (go_simp; rfl)) ?aP (fun _ hk => hk.elim) ?aF ?aO ?aB ?aS ?aL ?_; (case aP => exact k36_mkM _ _ _ (⟨t152, t153, t154⟩ : S36)); (case aB => exact z6_); (case aF => exact (fun k_ hk => Kd.freshB (g := gb156) (o := .cells #[.string t152, .string t153, .int .i64 t154] 36 (0, 0)) (by (with_reducible repeat (first | refine kN_ ?_ _ | refine kD_ ?_ | refine kA_ ?_ _)); refine blk_put (cs := #[.string t152, .string t153, .int .i64 0]) ?_ 2 _ rfl; (with_reducible repeat (first | refine kN_ ?_ _ | refine kD_ ?_ | refine kA_ ?_ _)); refine blk_put (cs := #[.string t152, .string (⟨#[]⟩ : ByteArray), .int .i64 0]) ?_ 1 _ rfl; (with_reducible repeat (first | refine kN_ ?_ _ | refine kD_ ?_ | refine kA_ ?_ _)); refine blk_put (cs := #[.string (⟨#[]⟩ : ByteArray), .string (⟨#[]⟩ : ByteArray), .int .i64 0]) ?_ 0 _ rfl; (with_reducible repeat (first | refine kN_ ?_ _ | refine kD_ ?_ | refine kA_ ?_ _)); exact BK156.out) k_ hk)); (case aO => exact (by (with_reducible repeat (first | apply Kd.R_alloc | apply Kd.R_drewN | apply Kd.R_drew)); exact Kd.R_mono (Kd.R_far (p := ⟨gb156, 2, none⟩) (Kd.R_far (p := ⟨gb156, 1, none⟩) (Kd.R_far (p := ⟨gb156, 0, none⟩) (Kd.R_mono HO_128003.out (fun k_ hk => (⟨hk, hk.2⟩ : _ ∧ k_ ≠ gb156))) (fun _ hk => hk.2) (.string t152)) (fun _ hk => hk.2) (.string t153)) (fun _ hk => hk.2) (.int .i64 t154)) (fun _ hk => hk.1.2))); (case aS => exact (below_size z6_)); (case aL => have := LMc46.out; omega); intro v158 w56 ho hb hg hat; rw [← Ny157.out] at ho; have n0_ := a_ (blk_grown (g := gb127) (o := .cells #[.int .u64 x128000_3, .int .u64 x128001_3, .string x128002_3, u128003] 39 (0, 0)) (by (with_reducible repeat (first | refine kN_ ?_ _ | refine kD_ ?_ | refine kA_ ?_ _)); refine blk_far ?_ NB127_156.out _; (with_reducible repeat (first | refine kN_ ?_ _ | refine kD_ ?_ | refine kA_ ?_ _)); refine blk_far ?_ NB127_156.out _; (with_reducible repeat (first | refine kN_ ?_ _ | refine kD_ ?_ | refine kA_ ?_ _)); refine blk_far ?_ NB127_156.out _; (with_reducible repeat (first | refine kN_ ?_ _ | refine kD_ ?_ | refine kA_ ?_ _)); exact BK127.out) hg (Kd.R_ne HO_128003.out BK127.out (by decide))); have n1_ := a_ (blk_grown (g := gb151) (o := .cells #[.string ((rd_T26 y146 x88_3).f0), .string ((rd_T26 y146 x88_3).f1)] 26 (0, 0)) (by (with_reducible repeat (first | refine kN_ ?_ _ | refine kD_ ?_ | refine kA_ ?_ _)); refine blk_far ?_ NB151_156.out _; (with_reducible repeat (first | refine kN_ ?_ _ | refine kD_ ?_ | refine kA_ ?_ _)); refine blk_far ?_ NB151_156.out _; (with_reducible repeat (first | refine kN_ ?_ _ | refine kD_ ?_ | refine kA_ ?_ _)); refine blk_far ?_ NB151_156.out _; (with_reducible repeat (first | refine kN_ ?_ _ | refine kD_ ?_ | refine kA_ ?_ _)); exact BK151.out) hg (Kd.R_ne HO_128003.out BK151.out (by decide))); have n2_ := a_ (blk_grown (g := gb156) (o := .cells #[.string t152, .string t153, .int .i64 t154] 36 (0, 0)) (by (with_reducible repeat (first | refine kN_ ?_ _ | refine kD_ ?_ | refine kA_ ?_ _)); refine blk_put (cs := #[.string t152, .string t153, .int .i64 0]) ?_ 2 _ rfl; (with_reducible repeat (first | refine kN_ ?_ _ | refine kD_ ?_ | refine kA_ ?_ _)); refine blk_put (cs := #[.string t152, .string (⟨#[]⟩ : ByteArray), .int .i64 0]) ?_ 1 _ rfl; (with_reducible repeat (first | refine kN_ ?_ _ | refine kD_ ?_ | refine kA_ ?_ _)); refine blk_put (cs := #[.string (⟨#[]⟩ : ByteArray), .string (⟨#[]⟩ : ByteArray), .int .i64 0]) ?_ 0 _ rfl; (with_reducible repeat (first | refine kN_ ?_ _ | refine kD_ ?_ | refine kA_ ?_ _)); exact BK156.out) hg (Kd.R_away HO_128003.out (fun _ hk => hk.2))); have n3_ := a_ (hb); have n4_ := a_ (ho); clear BK127; clear BK151; clear BK156; clear HB; clear HO_128003; have BK127 := n0_; have BK151 := n1_; have BK156 := n2_; have HB := n3_; have HO159 := n4_; clear n0_ n1_ n2_ n3_ n4_; clear ho hb hg hat; obtain ⟨Ao57, co57, eo57⟩ := Kd.R_slice HO159.out; subst eo57; have hcz58_0 : w56.cell? ⟨gb127, 0, none⟩ = some (.int .u64 x128000_3) := (blk_cell BK127.out 0).trans rfl; have hcz58_1 : w56.cell? ⟨gb127, 1, none⟩ = some (.int .u64 x128001_3) := (blk_cell BK127.out 1).trans rfl; have hcz58_2 : w56.cell? ⟨gb127, 2, none⟩ = some (.string x128002_3) := (blk_cell BK127.out 2).trans rfl; have hcz58_3 : w56.cell? ⟨gb127, 3, none⟩ = some (u128003) := (blk_cell BK127.out 3).trans rfl; have hfz58_0 := blk_frozen BK127.out 0; have hfz58_1 := blk_frozen BK127.out 1; have hfz58_2 := blk_frozen BK127.out 2; have hfz58_3 := blk_frozen BK127.out 3))
                     go_roundg k3
                     case measure => have := HJ4.out; have := HJ22.out; have := HK3.out; omega
                     case rel => exact ⟨(wrap64 (x88_3 + 1)), (x128000_3), (x128001_3), (x128002_3), (y157), (.slice Ao57 y157.length co57), z71_, H', ⟨by have := HJ4.out; have := HJ22.out; have := HK3.out; omega⟩, ⟨by (with_reducible repeat (first | apply Kd.R_alloc | apply Kd.R_drewN | apply Kd.R_drew)); exact Kd.R_mono (Kd.R_far (p := ⟨gb127, 3, none⟩) (Kd.R_types HO159.out BK127.out (by decide)) (fun _ hk => hk.2) (.slice Ao57 y157.length co57)) (fun _ hk => trivial)⟩, ⟨by (with_reducible repeat (first | refine kN_ ?_ _ | refine kD_ ?_ | refine kA_ ?_ _)); refine blk_put (cs := #[.int .u64 x128000_3, .int .u64 x128001_3, .string x128002_3, u128003]) ?_ 3 _ rfl; (with_reducible repeat (first | refine kN_ ?_ _ | refine kD_ ?_ | refine kA_ ?_ _)); exact BK127.out⟩, ⟨z6_⟩⟩
                    ·rw [if_neg c46] at H
                     exact absurd H (by simp)
                   ·replace c45 := Bool.eq_false_iff.mpr c45
                    subst c45
                    have H1 : (some (x128000_3, x128001_3, x128002_3, x128003_3, 0, false)) = some (r1, r2, r3, r4, r5, r6) := by rw [if_neg (show ¬ (false = true) by decide)] at H; exact H
                    clear H
                    have H := H1
                    clear H1
                    simp only [Option.some.injEq, Prod.mk.injEq] at H
                    obtain ⟨rfl, rfl, rfl, rfl, rfl, rfl⟩ := H
                    have p150 : 0 ≤ (x88_3 : Int) := of_decide_eq_true z70_
                    have q150 : x88_3 < (y146.length : Int) := of_decide_eq_true z70_
                    obtain ⟨ad150, e150, hx150_0, hx150_1⟩ := at_T26 HR149.out x88_3 p150 q150
                    cases e150
                    replace hx150_0 := (HB.out.cell (World.block_lt_of_cell? w _ hx150_0)).trans hx150_0
                    replace hx150_1 := (HB.out.cell (World.block_lt_of_cell? w _ hx150_1)).trans hx150_1
                    replace p150 := eq_true p150
                    replace q150 := eq_true q150
                    go_wp2_with (first | ((with_reducible refine gate_dst (N := 12) rfl ?_); (try (refine gate_guard (by rfl) ?_; dsimp only)); refine box_event ?hg (N := 12) ?hd (cs := #[.string (⟨#[]⟩ : ByteArray), .string (⟨#[]⟩ : ByteArray)]) (t := 26) ?hr ?_; (case hd => rfl); (case hg => rfl); (case hr => first | (go_simp; done) | (go_simp; rfl)); intro gb151 hg w59 hbox hb; have n0_ := a_ (Kd.R_below z31_ hb); have n1_ := a_ (blk_below (g := gb127) (o := .cells #[.int .u64 x128000_3, .int .u64 x128001_3, .string x128002_3, u128003] 39 (0, 0)) z52_ hb); have n2_ := a_ (below_step z23_ hb); have n3_ := a_ (hbox); have n4_ := a_ ((z8_ : w.heap.size ≤ gb151)); have n5_ := a_ ((z8_ : w.heap.size ≤ gb151)); have n6_ := a_ ((by rw [hg]; exact Nat.ne_of_lt (blk_lt (g := gb127) (o := .cells #[.int .u64 x128000_3, .int .u64 x128001_3, .string x128002_3, u128003] 39 (0, 0)) z52_) : gb127 ≠ gb151)); have n7_ := a_ ((by rw [hg]; exact Nat.ne_of_gt (blk_lt (g := gb127) (o := .cells #[.int .u64 x128000_3, .int .u64 x128001_3, .string x128002_3, u128003] 39 (0, 0)) z52_) : gb151 ≠ gb127)); clear HO_128003; clear BK127; clear HB; have HO_128003 := n0_; have BK127 := n1_; have HB := n2_; have BK151 := n3_; have GW151 := n4_; have GE151 := n5_; have NB127_151 := n6_; have NB151_127 := n7_; clear n0_ n1_ n2_ n3_ n4_ n5_ n6_ n7_; clear hb hbox hg; have hnb60 := NB151_127.out; have hnc60 := NB127_151.out; have hcz61_0 : w59.cell? ⟨gb151, 0, none⟩ = some (.string (⟨#[]⟩ : ByteArray)) := (blk_cell BK151.out 0).trans rfl; have hcz61_1 : w59.cell? ⟨gb151, 1, none⟩ = some (.string (⟨#[]⟩ : ByteArray)) := (blk_cell BK151.out 1).trans rfl; have hfz61_0 := blk_frozen BK151.out 0; have hfz61_1 := blk_frozen BK151.out 1) | ((with_reducible refine gate_callee (f := 30) rfl ?_); refine goesL_ (some 94) rfl rfl Tryz.func30 z74_ rfl #[.agg #[.string ((rd_T26 y146 x88_3).f0), .string ((rd_T26 y146 x88_3).f1)]] rfl z19_ ?_; (with_reducible refine (journal_leg.calls ((rd_T26 y146 x88_3).f0) ((rd_T26 y146 x88_3).f1) t152 t153 t154 false _ ?side1 A44.out).mono ?_); (case side1 => exact Glob.below HG.out z12_); rintro e w62 ⟨rfl, hb⟩; refine ⟨_, rfl, ?_⟩; have n0_ := a_ (Kd.R_below (by (with_reducible repeat (first | apply Kd.R_alloc | apply Kd.R_drewN | apply Kd.R_drew)); exact (Kd.R_mono (Kd.R_far (p := ⟨gb151, 1, none⟩) (Kd.R_far (p := ⟨gb151, 0, none⟩) (Kd.R_types HO_128003.out BK151.out (by decide)) (fun _ hk => hk.2) (.string ((rd_T26 y146 x88_3).f0))) (fun _ hk => hk.2) (.string ((rd_T26 y146 x88_3).f1))) (fun _ h_ => h_.1))) hb); have n1_ := a_ (blk_below (g := gb127) (o := .cells #[.int .u64 x128000_3, .int .u64 x128001_3, .string x128002_3, u128003] 39 (0, 0)) (by (with_reducible repeat (first | refine kN_ ?_ _ | refine kD_ ?_ | refine kA_ ?_ _)); refine blk_far ?_ NB127_151.out _; (with_reducible repeat (first | refine kN_ ?_ _ | refine kD_ ?_ | refine kA_ ?_ _)); refine blk_far ?_ NB127_151.out _; (with_reducible repeat (first | refine kN_ ?_ _ | refine kD_ ?_ | refine kA_ ?_ _)); exact BK127.out) hb); have n2_ := a_ (blk_below (g := gb151) (o := .cells #[.string ((rd_T26 y146 x88_3).f0), .string ((rd_T26 y146 x88_3).f1)] 26 (0, 0)) (by (with_reducible repeat (first | refine kN_ ?_ _ | refine kD_ ?_ | refine kA_ ?_ _)); refine blk_put (cs := #[.string ((rd_T26 y146 x88_3).f0), .string (⟨#[]⟩ : ByteArray)]) ?_ 1 _ rfl; (with_reducible repeat (first | refine kN_ ?_ _ | refine kD_ ?_ | refine kA_ ?_ _)); refine blk_put (cs := #[.string (⟨#[]⟩ : ByteArray), .string (⟨#[]⟩ : ByteArray)]) ?_ 0 _ rfl; (with_reducible repeat (first | refine kN_ ?_ _ | refine kD_ ?_ | refine kA_ ?_ _)); exact BK151.out) hb); have n3_ := a_ (below_step z12_ hb); clear HO_128003; clear BK127; clear BK151; clear HB; have HO_128003 := n0_; have BK127 := n1_; have BK151 := n2_; have HB := n3_; clear n0_ n1_ n2_ n3_; (try clear hb); (try clear hb2); (try clear hk); (try clear hi)) | ((with_reducible refine gate_dst (N := 13) rfl ?_); (try (refine gate_guard (by rfl) ?_; dsimp only)); refine box_event ?hg (N := 13) ?hd (cs := #[.string (⟨#[]⟩ : ByteArray), .string (⟨#[]⟩ : ByteArray), .int .i64 0]) (t := 36) ?hr ?_; (case hd => rfl); (case hg => rfl); (case hr => first | (go_simp; done) | (go_simp; rfl)); intro gb156 hg w63 hbox hb; have n0_ := a_ (Kd.R_below (Kd.R_elderB z31_ gb156 (Nat.le_of_eq hg.symm)) hb); have n1_ := a_ (blk_below (g := gb127) (o := .cells #[.int .u64 x128000_3, .int .u64 x128001_3, .string x128002_3, u128003] 39 (0, 0)) z52_ hb); have n2_ := a_ (blk_below (g := gb151) (o := .cells #[.string ((rd_T26 y146 x88_3).f0), .string ((rd_T26 y146 x88_3).f1)] 26 (0, 0)) z53_ hb); have n3_ := a_ (below_step z12_ hb); have n4_ := a_ (hbox); have n5_ := a_ ((z5_ : w.heap.size ≤ gb156)); have n6_ := a_ ((z5_ : w.heap.size ≤ gb156)); have n7_ := a_ ((by rw [hg]; exact Nat.ne_of_lt (blk_lt (g := gb127) (o := .cells #[.int .u64 x128000_3, .int .u64 x128001_3, .string x128002_3, u128003] 39 (0, 0)) z52_) : gb127 ≠ gb156)); have n8_ := a_ ((by rw [hg]; exact Nat.ne_of_gt (blk_lt (g := gb127) (o := .cells #[.int .u64 x128000_3, .int .u64 x128001_3, .string x128002_3, u128003] 39 (0, 0)) z52_) : gb156 ≠ gb127)); have n9_ := a_ ((by rw [hg]; exact Nat.ne_of_lt (blk_lt (g := gb151) (o := .cells #[.string ((rd_T26 y146 x88_3).f0), .string ((rd_T26 y146 x88_3).f1)] 26 (0, 0)) z53_) : gb151 ≠ gb156)); have n10_ := a_ ((by rw [hg]; exact Nat.ne_of_gt (blk_lt (g := gb151) (o := .cells #[.string ((rd_T26 y146 x88_3).f0), .string ((rd_T26 y146 x88_3).f1)] 26 (0, 0)) z53_) : gb156 ≠ gb151)); clear HO_128003; clear BK127; clear BK151; clear HB; have HO_128003 := n0_; have BK127 := n1_; have BK151 := n2_; have HB := n3_; have BK156 := n4_; have GW156 := n5_; have GE156 := n6_; have NB127_156 := n7_; have NB156_127 := n8_; have NB151_156 := n9_; have NB156_151 := n10_; clear n0_ n1_ n2_ n3_ n4_ n5_ n6_ n7_ n8_ n9_ n10_; clear hb hbox hg; have hnb64 := NB156_127.out; have hnc64 := NB127_156.out; have hnb65 := NB156_151.out; have hnc65 := NB151_156.out; have hcz66_0 : w63.cell? ⟨gb156, 0, none⟩ = some (.string (⟨#[]⟩ : ByteArray)) := (blk_cell BK156.out 0).trans rfl; have hcz66_1 : w63.cell? ⟨gb156, 1, none⟩ = some (.string (⟨#[]⟩ : ByteArray)) := (blk_cell BK156.out 1).trans rfl; have hcz66_2 : w63.cell? ⟨gb156, 2, none⟩ = some (.int .i64 0) := (blk_cell BK156.out 2).trans rfl; have hfz66_0 := blk_frozen BK156.out 0; have hfz66_1 := blk_frozen BK156.out 1; have hfz66_2 := blk_frozen BK156.out 2; have hcz67_0 : w63.cell? ⟨gb127, 0, none⟩ = some (.int .u64 x128000_3) := (blk_cell BK127.out 0).trans rfl; have hcz67_1 : w63.cell? ⟨gb127, 1, none⟩ = some (.int .u64 x128001_3) := (blk_cell BK127.out 1).trans rfl; have hcz67_2 : w63.cell? ⟨gb127, 2, none⟩ = some (.string x128002_3) := (blk_cell BK127.out 2).trans rfl; have hcz67_3 : w63.cell? ⟨gb127, 3, none⟩ = some (u128003) := (blk_cell BK127.out 3).trans rfl; have hfz67_0 := blk_frozen BK127.out 0; have hfz67_1 := blk_frozen BK127.out 1; have hfz67_2 := blk_frozen BK127.out 2; have hfz67_3 := blk_frozen BK127.out 3; obtain ⟨Ao68, co68, eo68⟩ := Kd.R_slice HO_128003.out; subst eo68))
                    refine bodyPost_ret (results_ctt rfl _ _ gb127 39 #[.int .u64 x128000_3, .int .u64 x128001_3, .string x128002_3, .slice Ao68 x128003_3.length co68] (0, 0) _ rfl (by (with_reducible repeat (first | refine kN_ ?_ _ | refine kD_ ?_ | refine kA_ ?_ _)); refine blk_put (cs := #[.int .u64 x128000_3, .int .u64 x128001_3, .string x128002_3, .slice Ao68 x128003_3.length co68]) ?_ 3 _ rfl; (with_reducible repeat (first | refine kN_ ?_ _ | refine kD_ ?_ | refine kA_ ?_ _)); refine blk_put (cs := #[.int .u64 x128000_3, .int .u64 x128001_3, .string x128002_3, .slice Ao68 x128003_3.length co68]) ?_ 2 _ rfl; (with_reducible repeat (first | refine kN_ ?_ _ | refine kD_ ?_ | refine kA_ ?_ _)); refine blk_put (cs := #[.int .u64 x128000_3, .int .u64 x128001_3, .string x128002_3, .slice Ao68 x128003_3.length co68]) ?_ 1 _ rfl; (with_reducible repeat (first | refine kN_ ?_ _ | refine kD_ ?_ | refine kA_ ?_ _)); refine blk_put (cs := #[.int .u64 x128000_3, .int .u64 x128001_3, .string x128002_3, .slice Ao68 x128003_3.length co68]) ?_ 0 _ rfl; (with_reducible repeat (first | refine kN_ ?_ _ | refine kD_ ?_ | refine kA_ ?_ _)); refine blk_far ?_ NB127_156.out _; (with_reducible repeat (first | refine kN_ ?_ _ | refine kD_ ?_ | refine kA_ ?_ _)); refine blk_far ?_ NB127_156.out _; (with_reducible repeat (first | refine kN_ ?_ _ | refine kD_ ?_ | refine kA_ ?_ _)); refine blk_far ?_ NB127_156.out _; (with_reducible repeat (first | refine kN_ ?_ _ | refine kD_ ?_ | refine kA_ ?_ _)); exact BK127.out) Tryz.underlying39 rfl z74_) rfl ?_
                    exact ⟨_, z64_, by (with_reducible repeat (first | apply Kd.R_alloc | apply Kd.R_drewN | apply Kd.R_drew)); exact Kd.R_mono (Kd.R_far (p := ⟨gb127, 3, none⟩) (Kd.R_far (p := ⟨gb127, 2, none⟩) (Kd.R_far (p := ⟨gb127, 1, none⟩) (Kd.R_far (p := ⟨gb127, 0, none⟩) (Kd.R_far (p := ⟨gb156, 2, none⟩) (Kd.R_far (p := ⟨gb156, 1, none⟩) (Kd.R_far (p := ⟨gb156, 0, none⟩) (Kd.R_types (Kd.R_mono HO_128003.out (fun k_ hk => (⟨hk, hk.2⟩ : _ ∧ k_ ≠ gb156))) BK127.out (by decide)) (fun _ hk => hk.1.2) (.string t152)) (fun _ hk => hk.1.2) (.string t153)) (fun _ hk => hk.1.2) (.int .i64 t154)) (fun _ hk => hk.2) (.int .u64 x128000_3)) (fun _ hk => hk.2) (.int .u64 x128001_3)) (fun _ hk => hk.2) (.string x128002_3)) (fun _ hk => hk.2) (.slice Ao68 x128003_3.length co68)) (fun _ hk => trivial), z6_⟩
                  ·rw [if_neg c43] at H
                   exact absurd H (by simp)
                 ·rw [if_neg c42] at H
                  exact absurd H (by simp)
                ·rw [if_neg c41] at H
                 have c41b0 : decide (x88_3 < (y146.length : Int)) = false := decide_eq_false c41
                 clear c41
                 simp only [Option.some.injEq, Prod.mk.injEq] at H
                 obtain ⟨rfl, rfl, rfl, rfl, rfl, rfl⟩ := H
                 have hcz69_0 : wr.cell? ⟨gb127, 0, none⟩ = some (.int .u64 x128000_3) := (blk_cell BK127.out 0).trans rfl
                 have hcz69_1 : wr.cell? ⟨gb127, 1, none⟩ = some (.int .u64 x128001_3) := (blk_cell BK127.out 1).trans rfl
                 have hcz69_2 : wr.cell? ⟨gb127, 2, none⟩ = some (.string x128002_3) := (blk_cell BK127.out 2).trans rfl
                 have hcz69_3 : wr.cell? ⟨gb127, 3, none⟩ = some (u128003) := (blk_cell BK127.out 3).trans rfl
                 have hfz69_0 := blk_frozen BK127.out 0
                 have hfz69_1 := blk_frozen BK127.out 1
                 have hfz69_2 := blk_frozen BK127.out 2
                 have hfz69_3 := blk_frozen BK127.out 3
                 obtain ⟨Ao70, co70, eo70⟩ := Kd.R_slice HO_128003.out
                 subst eo70
                 go_wp2
                 refine bodyPost_ret (results_ctt rfl _ _ gb127 39 #[.int .u64 x128000_3, .int .u64 x128001_3, .string x128002_3, .slice Ao70 x128003_3.length co70] (0, 0) _ rfl (by (with_reducible repeat (first | refine kN_ ?_ _ | refine kD_ ?_ | refine kA_ ?_ _)); refine blk_put (cs := #[.int .u64 x128000_3, .int .u64 x128001_3, .string x128002_3, .slice Ao70 x128003_3.length co70]) ?_ 3 _ rfl; (with_reducible repeat (first | refine kN_ ?_ _ | refine kD_ ?_ | refine kA_ ?_ _)); refine blk_put (cs := #[.int .u64 x128000_3, .int .u64 x128001_3, .string x128002_3, .slice Ao70 x128003_3.length co70]) ?_ 2 _ rfl; (with_reducible repeat (first | refine kN_ ?_ _ | refine kD_ ?_ | refine kA_ ?_ _)); refine blk_put (cs := #[.int .u64 x128000_3, .int .u64 x128001_3, .string x128002_3, .slice Ao70 x128003_3.length co70]) ?_ 1 _ rfl; (with_reducible repeat (first | refine kN_ ?_ _ | refine kD_ ?_ | refine kA_ ?_ _)); refine blk_put (cs := #[.int .u64 x128000_3, .int .u64 x128001_3, .string x128002_3, .slice Ao70 x128003_3.length co70]) ?_ 0 _ rfl; (with_reducible repeat (first | refine kN_ ?_ _ | refine kD_ ?_ | refine kA_ ?_ _)); exact BK127.out) Tryz.underlying39 rfl z74_) rfl ?_
                 exact ⟨_, z64_, by (with_reducible repeat (first | apply Kd.R_alloc | apply Kd.R_drewN | apply Kd.R_drew)); exact Kd.R_mono (Kd.R_far (p := ⟨gb127, 3, none⟩) (Kd.R_far (p := ⟨gb127, 2, none⟩) (Kd.R_far (p := ⟨gb127, 1, none⟩) (Kd.R_far (p := ⟨gb127, 0, none⟩) (Kd.R_types HO_128003.out BK127.out (by decide)) (fun _ hk => hk.2) (.int .u64 x128000_3)) (fun _ hk => hk.2) (.int .u64 x128001_3)) (fun _ hk => hk.2) (.string x128002_3)) (fun _ hk => hk.2) (.slice Ao70 x128003_3.length co70)) (fun _ hk => trivial), z23_⟩
             ·rw [if_neg c39] at H
              exact absurd H (by simp)
            ·rw [if_neg c38] at H
             exact absurd H (by simp)
        ·rw [if_neg c21] at H
         exact absurd H (by simp)
       ·rw [if_neg c19] at H
        exact absurd H (by simp)
      ·rw [if_neg c17] at H
       exact absurd H (by simp)
     ·rw [if_neg c16] at H
      exact absurd H (by simp)
 ·rw [if_neg c2] at H
  exact absurd H (by simp)

end Go.Proofs.YtjlifcbddednaaaGreatDoor.P
