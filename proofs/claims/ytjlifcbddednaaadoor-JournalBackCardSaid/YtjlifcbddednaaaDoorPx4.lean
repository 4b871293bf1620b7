-- Laid by wip/tools/cprint.py of this claim's own repo (over the kit's print).
import Derived.Test.YtjlifcbddednaaaDoorPx0
import Derived.Test.YtjlifcbddednaaaDoorPx3
import Derived.Test.YtjlifcbddednaaaDoorLib
import Derived.Test.YtjlifcbddednaaaDoorNumber
import Derived.Test.YtjlifcbddednaaaDoorParse
namespace Go.Proofs.YtjlifcbddednaaaDoor.P
open Go.RowKit Go.Proofs.YtjlifcbddednaaaDoor.E Go.Proofs.YtjlifcbddednaaaDoorW.PrintWords Go.Proofs.YtjlifcbddednaaaDoorW.PrintLast
set_option linter.unusedVariables false
set_option linter.unusedSimpArgs false

/-! ### journal_first: function 33 -/
mutual
def journal_first.j0 : Nat → List (S36) → List ByteArray → List ByteArray → Bool → Int → Int → ByteArray → Option (Int × Int × ByteArray × (List (S42)) × Int × Bool)
 | 0, _, _, _, _, _, _, _ => none
 | k + 1, x0, x5, x6, x32, x131000, x131001, x131002 => if x32 = true then (some (x131000, x131001, x131002, ([] : List (S42)), 0, false)) else (if 1 < (x6.length : Int) then (if 1 < (x5.length : Int) then ((label_Number.f (rdOf ByteArray.empty x5 1)).bind fun bt141 => (if 0 < (x6.length : Int) then ((label_Number.f (rdOf ByteArray.empty x6 0)).bind fun bt144 => (if 2 < (x6.length : Int) then ((coin_Parse.f (rdOf ByteArray.empty x6 2)).bind fun bt147 => (if bt141.2 = 0 then (if bt144.2 = 0 then (if bt147.2 = 0 then (if bt147.1 < 0 then (journal_first.j1 k x0 bt147.1 true bt141.1 bt144.1 (rdOf ByteArray.empty x6 1)) else (journal_first.j1 k x0 bt147.1 (decide (bt147.1 > (wrap64 ((x0.length : Int) - 1)))) bt141.1 bt144.1 (rdOf ByteArray.empty x6 1))) else (journal_first.j1 k x0 bt147.1 true bt141.1 bt144.1 (rdOf ByteArray.empty x6 1))) else (journal_first.j1 k x0 bt147.1 true bt141.1 bt144.1 (rdOf ByteArray.empty x6 1))) else (journal_first.j1 k x0 bt147.1 true bt141.1 bt144.1 (rdOf ByteArray.empty x6 1)))) else (none))) else (none))) else (none)) else (none))
def journal_first.j1 : Nat → List (S36) → Int → Bool → Int → Int → ByteArray → Option (Int × Int × ByteArray × (List (S42)) × Int × Bool)
 | 0, _, _, _, _, _, _ => none
 | k + 1, x0, x9, x81, x131000, x131001, x131002 => if x81 = true then (some (x131000, x131001, x131002, ([] : List (S42)), 0, false)) else (if 1 ≤ (wrap64 (1 + x9)) then (if (wrap64 (1 + x9)) ≤ (x0.length : Int) then ((some ((x0.take ((wrap64 (1 + x9)) : Int).toNat).drop 1 : List (S36))).bind fun y149 => (journal_first.l0 k x9 y149 (y149.length : Int) 0 x131000 x131001 x131002 ([] : List (S42)))) else (none)) else (none))
def journal_first.l0 : Nat → Int → List (S36) → Int → Int → Int → Int → ByteArray → List (S42) → Option (Int × Int × ByteArray × (List (S42)) × Int × Bool)
 | 0, _, _, _, _, _, _, _, _ => none
 | k + 1, x9, x86, x87, x88, x131000, x131001, x131002, x131003 => if x88 < x87 then (if 0 ≤ x88 then (if x88 < (x86.length : Int) then ((journal_leg.f ((rd_T36 x86 x88).f0) ((rd_T36 x86 x88).f1)).bind fun bt155 => (if bt155.2.2.2 = true then (if x131003.length < 3518437208883 then (journal_first.l0 k x9 x86 x87 (wrap64 (x88 + 1)) x131000 x131001 x131002 (x131003 ++ [(⟨bt155.1, bt155.2.1, bt155.2.2.1⟩ : S42)])) else (none)) else (some (x131000, x131001, x131002, x131003, 0, false)))) else (none)) else (none)) else (some (x131000, x131001, x131002, x131003, wrap64 (1 + x9), true))
end
def journal_first.f (k : Nat) (l0 : List (S36)) : Option (Int × Int × ByteArray × (List (S42)) × Int × Bool) := if 0 < (l0.length : Int) then ((strings_Split.f ((rd_T36 l0 0).f0) (⟨#[124]⟩ : ByteArray)).bind fun t132 => ((strings_Split.f ((rd_T36 l0 0).f1) (⟨#[124]⟩ : ByteArray)).bind fun t136 => (if (t132.length : Int) = 3 then (journal_first.j0 k l0 t132 t136 ((t136.length : Int) != 3) 0 0 (⟨#[]⟩ : ByteArray)) else (journal_first.j0 k l0 t132 t136 true 0 0 (⟨#[]⟩ : ByteArray))))) else (none)
theorem journal_first.mono_l : ∀ k, (∀ y0 y1 y2 y3 y4 y5 y6, LeO (journal_first.j0 k y0 y1 y2 y3 y4 y5 y6) (journal_first.j0 (k + 1) y0 y1 y2 y3 y4 y5 y6)) ∧ (∀ y0 y1 y2 y3 y4 y5, LeO (journal_first.j1 k y0 y1 y2 y3 y4 y5) (journal_first.j1 (k + 1) y0 y1 y2 y3 y4 y5)) ∧ (∀ y0 y1 y2 y3 y4 y5 y6 y7, LeO (journal_first.l0 k y0 y1 y2 y3 y4 y5 y6 y7) (journal_first.l0 (k + 1) y0 y1 y2 y3 y4 y5 y6 y7))
 | 0 => ⟨fun _ _ _ _ _ _ _ r h => by simp [journal_first.j0] at h, fun _ _ _ _ _ _ r h => by simp [journal_first.j1] at h, fun _ _ _ _ _ _ _ _ r h => by simp [journal_first.l0] at h⟩
 | k + 1 => by
  obtain ⟨ih0, ih1, ih2⟩ := journal_first.mono_l k
  refine ⟨?_, ?_, ?_⟩
  ·intro y0 y1 y2 y3 y4 y5 y6
   unfold journal_first.j0
   repeat' first
   | (with_reducible exact ih0 _ _ _ _ _ _ _)
   | (with_reducible exact ih1 _ _ _ _ _ _)
   | (with_reducible exact ih2 _ _ _ _ _ _ _ _)
   | (with_reducible exact LeO.refl _)
   | (with_reducible exact LeO.none _)
   | (with_reducible refine LeO.ite ?_ ?_)
   | (with_reducible refine LeO.bind ?_ (fun _ => ?_))
   | exact ih0 _ _ _ _ _ _ _
   | exact ih1 _ _ _ _ _ _
   | exact ih2 _ _ _ _ _ _ _ _
   | exact LeO.none _
   | refine LeO.ite ?_ ?_
   | refine LeO.bind ?_ (fun _ => ?_)
  ·intro y0 y1 y2 y3 y4 y5
   unfold journal_first.j1
   repeat' first
   | (with_reducible exact ih0 _ _ _ _ _ _ _)
   | (with_reducible exact ih1 _ _ _ _ _ _)
   | (with_reducible exact ih2 _ _ _ _ _ _ _ _)
   | (with_reducible exact LeO.refl _)
   | (with_reducible exact LeO.none _)
   | (with_reducible refine LeO.ite ?_ ?_)
   | (with_reducible refine LeO.bind ?_ (fun _ => ?_))
   | exact ih0 _ _ _ _ _ _ _
   | exact ih1 _ _ _ _ _ _
   | exact ih2 _ _ _ _ _ _ _ _
   | exact LeO.none _
   | refine LeO.ite ?_ ?_
   | refine LeO.bind ?_ (fun _ => ?_)
  ·intro y0 y1 y2 y3 y4 y5 y6 y7
   unfold journal_first.l0
   repeat' first
   | (with_reducible exact ih0 _ _ _ _ _ _ _)
   | (with_reducible exact ih1 _ _ _ _ _ _)
   | (with_reducible exact ih2 _ _ _ _ _ _ _ _)
   | (with_reducible exact LeO.refl _)
   | (with_reducible exact LeO.none _)
   | (with_reducible refine LeO.ite ?_ ?_)
   | (with_reducible refine LeO.bind ?_ (fun _ => ?_))
   | exact ih0 _ _ _ _ _ _ _
   | exact ih1 _ _ _ _ _ _
   | exact ih2 _ _ _ _ _ _ _ _
   | exact LeO.none _
   | refine LeO.ite ?_ ?_
   | refine LeO.bind ?_ (fun _ => ?_)
theorem journal_first.mono : ∀ a0 k, LeO (journal_first.f k a0) (journal_first.f (k + 1) a0) := by
 intro a0 k
 obtain ⟨ih0, ih1, ih2⟩ := journal_first.mono_l k
 unfold journal_first.f
 repeat' first
   | (with_reducible exact ih0 _ _ _ _ _ _ _)
   | (with_reducible exact ih1 _ _ _ _ _ _)
   | (with_reducible exact ih2 _ _ _ _ _ _ _ _)
   | (with_reducible exact LeO.refl _)
   | (with_reducible exact LeO.none _)
   | (with_reducible refine LeO.ite ?_ ?_)
   | (with_reducible refine LeO.bind ?_ (fun _ => ?_))
   | exact ih0 _ _ _ _ _ _ _
   | exact ih1 _ _ _ _ _ _
   | exact ih2 _ _ _ _ _ _ _ _
   | exact LeO.none _
   | refine LeO.ite ?_ ?_
   | refine LeO.bind ?_ (fun _ => ?_)
def journal_first.T1 : Bool × List (List Nat × List Nat) := (true, [([], []), ([0], [0]), ([1], [1]), ([2], [2]), ([3], [3]), ([], []), ([5], [5]), ([6], [6]), ([7], [7]), ([8, 4], [8]), ([4, 9, 0, 1, 2, 3, 4], [4]), ([9, 10, 0, 1, 2, 3, 4, 5, 6, 7, 8, 9, 10], [9])])
def journal_first.B1 : List Nat := [0, 1, 3, 7, 15, 0, 32, 96, 224, 511, 1023, 2047]
theorem journal_first.tab1 : rtab .any (opsOf Tryd.f33 1) = journal_first.T1 := by kernel_rfl
theorem journal_first.bits1 : waitsOk journal_first.T1.2 journal_first.B1 = true := by kernel_rfl
set_option maxHeartbeats 8000000 in
set_option maxRecDepth 100000 in
theorem journal_first.calls (k : Nat) (A0 : Option Addr) (c0 : Nat) (l0 : List (S36)) (r1 : Int) (r2 : Int) (r3 : ByteArray) (r4 : List (S42)) (r5 : Int) (r6 : Bool) (w : World) (hG : Glob w) (hr0 : Kd.C k36 w A0 l0.length l0) (hc0 : l0.length ≤ c0) (h : journal_first.f k l0 = some (r1, r2, r3, r4, r5, r6)) :
  Calls Tryd.prog 33 #[.slice A0 l0.length c0] w fun e w' => ∃ v3_ : Value, e = .returned (.tuple #[.agg #[.int .u64 r1, .int .u64 r2, .string r3, v3_], .int .i64 r5, .bool r6]) ∧ Kd.R k42 42 w' w.heap.size (fun _ => True) v3_ r4 ∧ Below w.heap.size w w' := by
 have hu26 := Tryd.underlying26
 have hu36 := Tryd.underlying36
 have hu42 := Tryd.underlying42
 have HG := Aside0.mk hG
 clear hG
 have HR0 := Aside0.mk hr0
 have HC0 := Aside0.mk hc0
 clear hr0 hc0
 have HB := Aside0.mk (Below.refl w.heap.size w)
 have H : (if 0 < (l0.length : Int) then ((strings_Split.f ((rd_T36 l0 0).f0) (⟨#[124]⟩ : ByteArray)).bind fun t132 => ((strings_Split.f ((rd_T36 l0 0).f1) (⟨#[124]⟩ : ByteArray)).bind fun t136 => (if (t132.length : Int) = 3 then (journal_first.j0 k l0 t132 t136 ((t136.length : Int) != 3) 0 0 (⟨#[]⟩ : ByteArray)) else (journal_first.j0 k l0 t132 t136 true 0 0 (⟨#[]⟩ : ByteArray))))) else (none)) = some (r1, r2, r3, r4, r5, r6) := h
 clear h
 by_cases c2 : 0 < (l0.length : Int)
 ·rw [if_pos c2] at H
  have c2b0 : decide (0 < (l0.length : Int)) = true := decide_eq_true c2
  have c2b1 : decide (0 < l0.length) = true := decide_eq_true (by omega)
  clear c2
  replace H := Option.bind_eq_some_iff.mp H
  obtain ⟨t132, A30, H⟩ := H
  replace H : ((strings_Split.f ((rd_T36 l0 0).f1) (⟨#[124]⟩ : ByteArray)).bind fun t136 => (if (t132.length : Int) = 3 then (journal_first.j0 k l0 t132 t136 ((t136.length : Int) != 3) 0 0 (⟨#[]⟩ : ByteArray)) else (journal_first.j0 k l0 t132 t136 true 0 0 (⟨#[]⟩ : ByteArray)))) = some (r1, r2, r3, r4, r5, r6) := H
  have A3 := Aside0.mk A30
  clear A30
  replace H := Option.bind_eq_some_iff.mp H
  obtain ⟨t136, A40, H⟩ := H
  replace H : (if (t132.length : Int) = 3 then (journal_first.j0 k l0 t132 t136 ((t136.length : Int) != 3) 0 0 (⟨#[]⟩ : ByteArray)) else (journal_first.j0 k l0 t132 t136 true 0 0 (⟨#[]⟩ : ByteArray))) = some (r1, r2, r3, r4, r5, r6) := H
  have A4 := Aside0.mk A40
  clear A40
  have HC5 := Aside0.mk H
  clear H
  go_enter Tryd.func33, Tryd.ntmps33
  try go_wp2_with (first | ((with_reducible refine gate_dst (N := 2) rfl ?_); (try (refine gate_guard (by rfl) ?_; dsimp only)); refine box_event ?hg (N := 2) ?hd (cs := #[.int .u64 0, .int .u64 0, .string (⟨#[]⟩ : ByteArray), .slice none 0 0]) (t := 26) ?hr ?_; (case hd => rfl); (case hg => rfl); (case hr => first | (go_simp; done) | (go_simp; rfl)); intro gb130 hg w6 hbox hb; have n0_ := Aside0.mk (below_step (by repeat (first | (with_reducible first | exact HB.out | apply below_alloc | apply pw_below_drewN | apply below_drew1) | exact HB.out)) hb); have n1_ := Aside0.mk (hbox); have n2_ := Aside0.mk ((by rw [hg]; exact (below_size (by repeat (first | (with_reducible first | exact HB.out | apply below_alloc | apply pw_below_drewN | apply below_drew1) | exact HB.out))) : w.heap.size ≤ gb130)); have n3_ := Aside0.mk ((by rw [hg]; exact (below_size (by repeat (first | (with_reducible first | exact HB.out | apply below_alloc | apply pw_below_drewN | apply below_drew1) | exact HB.out))) : w.heap.size ≤ gb130)); clear HB; have HB := n0_; have BK130 := n1_; have GW130 := n2_; have GE130 := n3_; clear n0_ n1_ n2_ n3_; clear hb hbox hg))
  have n0_ := Aside0.mk (blk_drew BK130.out)
  have n1_ := Aside0.mk (below_drew1 HB.out)
  clear BK130
  clear HB
  have BK130 := n0_
  have HB := n1_
  clear n0_ n1_
  have p131 : 0 ≤ (0 : Int) := (by omega)
  have q131 : 0 < (l0.length : Int) := of_decide_eq_true (by first | (with_reducible assumption) | assumption)
  obtain ⟨ad131, e131, hx131_0, hx131_1⟩ := at_T36 HR0.out 0 p131 q131
  have hw131_1 := hx131_1
  (try rw [show ((0 : Int)).toNat = 0 from rfl] at hw131_1)
  (try rw [show 0 * 2 = 0 from rfl] at hw131_1)
  (try rw [Addr.add_zero'] at hw131_1)
  have hw131_0 := hx131_0
  (try rw [show ((0 : Int)).toNat = 0 from rfl] at hw131_0)
  (try rw [show 0 * 2 = 0 from rfl] at hw131_0)
  (try rw [Addr.add_zero'] at hw131_0)
  cases e131
  have qi131 : (0 < l0.length) = True := eq_true (by omega)
  (try rw [show ((0 : Int)).toNat = 0 from rfl] at hx131_0)
  (try rw [show 0 * 2 = 0 from rfl] at hx131_0)
  (try rw [Addr.add_zero'] at hx131_0)
  (try rw [show ((0 : Int)).toNat = 0 from rfl] at hx131_1)
  (try rw [show 0 * 2 = 0 from rfl] at hx131_1)
  (try rw [Addr.add_zero'] at hx131_1)
  replace hx131_0 := (HB.out.cell (World.block_lt_of_cell? w _ hx131_0)).trans hx131_0
  replace hx131_1 := (HB.out.cell (World.block_lt_of_cell? w _ hx131_1)).trans hx131_1
  replace p131 := eq_true p131
  replace q131 := eq_true q131
  have p135 : 0 ≤ (0 : Int) := (by omega)
  have q135 : 0 < (l0.length : Int) := of_decide_eq_true (by first | (with_reducible assumption) | assumption)
  obtain ⟨ad135, e135, hx135_0, hx135_1⟩ := at_T36 HR0.out 0 p135 q135
  have hw135_1 := hx135_1
  (try rw [show ((0 : Int)).toNat = 0 from rfl] at hw135_1)
  (try rw [show 0 * 2 = 0 from rfl] at hw135_1)
  (try rw [Addr.add_zero'] at hw135_1)
  have hw135_0 := hx135_0
  (try rw [show ((0 : Int)).toNat = 0 from rfl] at hw135_0)
  (try rw [show 0 * 2 = 0 from rfl] at hw135_0)
  (try rw [Addr.add_zero'] at hw135_0)
  obtain rfl : ad131 = ad135 := (by injection e135)
  have qi135 : (0 < l0.length) = True := eq_true (by omega)
  (try rw [show ((0 : Int)).toNat = 0 from rfl] at hx135_0)
  (try rw [show 0 * 2 = 0 from rfl] at hx135_0)
  (try rw [Addr.add_zero'] at hx135_0)
  (try rw [show ((0 : Int)).toNat = 0 from rfl] at hx135_1)
  (try rw [show 0 * 2 = 0 from rfl] at hx135_1)
  (try rw [Addr.add_zero'] at hx135_1)
  replace hx135_0 := (HB.out.cell (World.block_lt_of_cell? w _ hx135_0)).trans hx135_0
  replace hx135_1 := (HB.out.cell (World.block_lt_of_cell? w _ hx135_1)).trans hx135_1
  replace p135 := eq_true p135
  replace q135 := eq_true q135
  refine start_ (n := 12) (S := fun w' => w'.cell? ad131 = some (.string ((rd_T36 l0 0).f0)) ∧ w'.cell? ⟨ad131.block, ad131.off + 1, none⟩ = some (.string ((rd_T36 l0 0).f1)) ∧ w'.cell? ad131 = some (.string ((rd_T36 l0 0).f0)) ∧ w'.cell? ⟨ad131.block, ad131.off + 1, none⟩ = some (.string ((rd_T36 l0 0).f1))) (ds := []) #[false, false, false, false, false, false, false, false, false, false, false, false] (by kernel_rfl) rfl rfl ⟨((HB.out.cell (World.block_lt_of_cell? w _ hw131_0)).trans hw131_0), ((HB.out.cell (World.block_lt_of_cell? w _ hw131_1)).trans hw131_1), ((HB.out.cell (World.block_lt_of_cell? w _ hw135_0)).trans hw135_0), ((HB.out.cell (World.block_lt_of_cell? w _ hw135_1)).trans hw135_1)⟩ (fun hHeld => ?_); refine with_tabW journal_first.tab1 journal_first.bits1 (fun HT_ HW_ => ?_)
  generalize w6.drew = w7 at BK130 HB hx131_0 hx131_1 hx135_0 hx135_1 hHeld ⊢
  refine pure_ (i := 0) (N := some 15) (v := ?_) (a' := ?_) (fl_ 12 1) rfl rfl (any_of HT_.out (by kernel_rfl)) (fun _ _ _ h => h) (Or.inl ⟨by rfl, ?_⟩) ?_ ?_
  rotate_left
  ·intro w'
   go_simp
   with_reducible rfl
  rotate_left
  ·simp only [Act.put, List.setIfInBounds_toArray, List.set_cons_zero, List.set_cons_succ, i64_w, i32_w]
   rfl
  refine pure_ (i := 1) (N := some 16) (v := ?_) (a' := ?_) (fl_ 12 3) rfl rfl (any_of HT_.out (by kernel_rfl)) (fun _ _ _ h => h) (Or.inl ⟨by rfl, ?_⟩) ?_ ?_
  rotate_left
  ·intro w'
   go_simp
   with_reducible rfl
  rotate_left
  ·simp only [Act.put, List.setIfInBounds_toArray, List.set_cons_zero, List.set_cons_succ, i64_w, i32_w]
   rfl
  refine pure_ (i := 2) (N := some 17) (v := ?_) (a' := ?_) (fl_ 12 7) rfl rfl (any_of HT_.out (by kernel_rfl)) (fun _ _ _ h => h) (Or.inl ⟨by rfl, ?_⟩) ?_ ?_
  rotate_left
  ·intro w'
   go_simp
   with_reducible rfl
  rotate_left
  ·simp only [Act.put, List.setIfInBounds_toArray, List.set_cons_zero, List.set_cons_succ, i64_w, i32_w]
   rfl
  refine pure_ (i := 5) (N := some 20) (v := ?_) (a' := ?_) (fl_ 12 39) rfl rfl (any_of HT_.out (by kernel_rfl)) (fun _ _ _ h => h) (Or.inl ⟨by rfl, ?_⟩) ?_ ?_
  rotate_left
  ·intro w'
   go_simp
   with_reducible rfl
  rotate_left
  ·simp only [Act.put, List.setIfInBounds_toArray, List.set_cons_zero, List.set_cons_succ, i64_w, i32_w]
   rfl
  refine pure_ (i := 6) (N := some 21) (v := ?_) (a' := ?_) (fl_ 12 103) rfl rfl (any_of HT_.out (by kernel_rfl)) (fun _ _ _ h => h) (Or.inl ⟨by rfl, ?_⟩) ?_ ?_
  rotate_left
  ·intro w'
   go_simp
   with_reducible rfl
  rotate_left
  ·simp only [Act.put, List.setIfInBounds_toArray, List.set_cons_zero, List.set_cons_succ, i64_w, i32_w]
   rfl
  refine pure_ (i := 7) (N := some 22) (v := ?_) (a' := ?_) (fl_ 12 231) rfl rfl (any_of HT_.out (by kernel_rfl)) (fun _ _ _ h => h) (Or.inl ⟨by rfl, ?_⟩) ?_ ?_
  rotate_left
  ·intro w'
   go_simp
   with_reducible rfl
  rotate_left
  ·simp only [Act.put, List.setIfInBounds_toArray, List.set_cons_zero, List.set_cons_succ, i64_w, i32_w]
   rfl
  refine take_ (i := 3) (N := some 18) (v := ?_) (a' := ?_) (fl_ 12 239) rfl rfl (take_ofW HT_.out HW_.out (by kernel_rfl)) (fun _ _ _ h => h) (Or.inl ⟨by rfl, ?_⟩) hHeld ?_ ?_
  rotate_left
  ·rintro w' ⟨s0, s1, s2, s3⟩
   go_simp
   with_reducible rfl
  rotate_left
  ·simp only [Act.put, List.setIfInBounds_toArray, List.set_cons_zero, List.set_cons_succ, i64_w, i32_w]
   rfl
  refine take_ (i := 8) (N := some 23) (v := ?_) (a' := ?_) (fl_ 12 495) rfl rfl (take_ofW HT_.out HW_.out (by kernel_rfl)) (fun _ _ _ h => h) (Or.inl ⟨by rfl, ?_⟩) hHeld ?_ ?_
  rotate_left
  ·rintro w' ⟨s0, s1, s2, s3⟩
   go_simp
   with_reducible rfl
  rotate_left
  ·simp only [Act.put, List.setIfInBounds_toArray, List.set_cons_zero, List.set_cons_succ, i64_w, i32_w]
   rfl
  refine one_ (i := 4) (N := some 19) (fl_ 12 511) rfl rfl (one_of HT_.out (by kernel_rfl)) (by decide) (fun K hK => ?_)
  refine goes_ Tryd.func45 (by kernel_rfl) rfl #[.string ((rd_T36 l0 0).f0), .string (⟨#[124]⟩ : ByteArray)] (by rfl) rfl rfl (by (try simp only [List.map_toArray, List.map_cons, List.map_nil]); first | done | rfl | (simp only [List.length_drop, List.length_take]; rfl)) ?_
  with_reducible refine (strings_Split.calls ((rd_T36 l0 0).f0) (⟨#[124]⟩ : ByteArray) t132 _ ?side1 A3.out).mono ?_
  (case side1 => exact Glob.below HG.out (by repeat (first | (with_reducible first | exact HB.out | apply below_alloc | apply pw_below_drewN | apply below_drew1 | refine below_set ?_ GE130.out) | exact HB.out)))
  rintro e w8 ⟨v133, rfl, ho0, hb⟩
  refine ⟨_, rfl, ?_⟩
  have n0_ := Aside0.mk (Kd.R_lower ho0 (below_size (by repeat (first | (with_reducible first | exact HB.out | apply below_alloc | apply pw_below_drewN | apply below_drew1 | refine below_set ?_ GE130.out) | exact HB.out))))
  have n1_ := Aside0.mk (blk_below (g := gb130) (o := .cells #[.int .u64 0, .int .u64 0, .string (⟨#[]⟩ : ByteArray), .slice none 0 0] 26 (0, 0)) (by (with_reducible repeat (first | refine blk_drewN ?_ _ | refine blk_drew ?_ | refine blk_alloc ?_ _)); exact BK130.out) hb)
  have n2_ := Aside0.mk (below_step (by repeat (first | (with_reducible first | exact HB.out | apply below_alloc | apply pw_below_drewN | apply below_drew1 | refine below_set ?_ GE130.out) | exact HB.out)) hb)
  clear BK130
  clear HB
  have HO134 := n0_
  have BK130 := n1_
  have HB := n2_
  clear n0_ n1_ n2_
  (try clear hb)
  (try clear hb2)
  (try clear hk)
  (try clear hi)
  (try clear ho0)
  refine hK.out _ _ ⟨((HB.out.cell (World.block_lt_of_cell? w _ hw131_0)).trans hw131_0), ((HB.out.cell (World.block_lt_of_cell? w _ hw131_1)).trans hw131_1), ((HB.out.cell (World.block_lt_of_cell? w _ hw135_0)).trans hw135_0), ((HB.out.cell (World.block_lt_of_cell? w _ hw135_1)).trans hw135_1)⟩ (fun hHeld => ?_)
  clear hK K
  refine norm_ (a' := ?_) ?_ ?_
  rotate_left
  ·show Act.put _ (some 19) _ = _
   simp only [Act.put, List.setIfInBounds_toArray, List.set_cons_zero, List.set_cons_succ, i64_w, i32_w]
   rfl
  refine one_ (i := 9) (N := some 24) (fl_ 12 1023) rfl rfl (one_of HT_.out (by kernel_rfl)) (by decide) (fun K hK => ?_)
  refine goes_ Tryd.func45 (by kernel_rfl) rfl #[.string ((rd_T36 l0 0).f1), .string (⟨#[124]⟩ : ByteArray)] (by rfl) rfl rfl (by (try simp only [List.map_toArray, List.map_cons, List.map_nil]); first | done | rfl | (simp only [List.length_drop, List.length_take]; rfl)) ?_
  with_reducible refine (strings_Split.calls ((rd_T36 l0 0).f1) (⟨#[124]⟩ : ByteArray) t136 _ ?side1 A4.out).mono ?_
  (case side1 => exact Glob.below HG.out (by repeat (first | (with_reducible first | exact HB.out | apply below_alloc | apply pw_below_drewN | apply below_drew1 | refine below_set ?_ GE130.out) | exact HB.out)))
  rintro e w9 ⟨v137, rfl, ho0, hb⟩
  refine ⟨_, rfl, ?_⟩
  have n0_ := Aside0.mk (Kd.R_elder' (by (with_reducible repeat (first | apply Kd.R_alloc | apply Kd.R_drewN | apply Kd.R_drew)); exact HO134.out) (Kd.R_base ho0) hb)
  have n1_ := Aside0.mk (Kd.R_lower (Kd.R_new' ho0 (Kd.R_lt (by (with_reducible repeat (first | apply Kd.R_alloc | apply Kd.R_drewN | apply Kd.R_drew)); exact HO134.out))) (below_size (by repeat (first | (with_reducible first | exact HB.out | apply below_alloc | apply pw_below_drewN | apply below_drew1 | refine below_set ?_ GE130.out) | exact HB.out))))
  have n2_ := Aside0.mk (blk_below (g := gb130) (o := .cells #[.int .u64 0, .int .u64 0, .string (⟨#[]⟩ : ByteArray), .slice none 0 0] 26 (0, 0)) (by (with_reducible repeat (first | refine blk_drewN ?_ _ | refine blk_drew ?_ | refine blk_alloc ?_ _)); exact BK130.out) hb)
  have n3_ := Aside0.mk (below_step (by repeat (first | (with_reducible first | exact HB.out | apply below_alloc | apply pw_below_drewN | apply below_drew1 | refine below_set ?_ GE130.out) | exact HB.out)) hb)
  clear HO134
  clear BK130
  clear HB
  have HO134 := n0_
  have HO138 := n1_
  have BK130 := n2_
  have HB := n3_
  clear n0_ n1_ n2_ n3_
  (try clear hb)
  (try clear hb2)
  (try clear hk)
  (try clear hi)
  (try clear ho0)
  refine hK.out _ _ ⟨((HB.out.cell (World.block_lt_of_cell? w _ hw131_0)).trans hw131_0), ((HB.out.cell (World.block_lt_of_cell? w _ hw131_1)).trans hw131_1), ((HB.out.cell (World.block_lt_of_cell? w _ hw135_0)).trans hw135_0), ((HB.out.cell (World.block_lt_of_cell? w _ hw135_1)).trans hw135_1)⟩ (fun hHeld => ?_)
  clear hK K
  refine norm_ (a' := ?_) ?_ ?_
  rotate_left
  ·show Act.put _ (some 24) _ = _
   simp only [Act.put, List.setIfInBounds_toArray, List.set_cons_zero, List.set_cons_succ, i64_w, i32_w]
   rfl
  refine pure_ (i := 10) (N := some 5) (v := ?_) (a' := ?_) (fl_ 12 2047) rfl rfl (any_of HT_.out (by kernel_rfl)) (fun _ _ _ h => h) (Or.inl ⟨by rfl, ?_⟩) ?_ ?_
  rotate_left
  ·intro w'
   go_simp
   with_reducible rfl
  rotate_left
  ·simp only [Act.put, List.setIfInBounds_toArray, List.set_cons_zero, List.set_cons_succ, i64_w, i32_w]
   rfl
  refine pure_ (i := 11) (N := some 6) (v := ?_) (a' := ?_) (fl_ 12 4095) rfl rfl (any_of HT_.out (by kernel_rfl)) (fun _ _ _ h => h) (Or.inl ⟨by rfl, ?_⟩) ?_ ?_
  rotate_left
  ·intro w'
   go_simp
   with_reducible rfl
  rotate_left
  ·simp only [Act.put, List.setIfInBounds_toArray, List.set_cons_zero, List.set_cons_succ, i64_w, i32_w]
   rfl
  refine done_ (done_of HT_.out (by kernel_rfl)) ?_
  go_upto_region 2 with (fail)
  go_cut [32] (fun v32 wc => ∃ (kq : Nat) (x32_4 : Bool), v32 = .bool x32_4 ∧ Aside0 (journal_first.j0 kq l0 t132 t136 x32_4 0 0 (⟨#[]⟩ : ByteArray) = some (r1, r2, r3, r4, r5, r6)) ∧ Aside0 (kq ≤ k) ∧ Aside0 (Kd.R Kd.string 9 wc w.heap.size (fun k_ => some k_ ≠ (v137 : Value).ownBlock) v133 t132) ∧ Aside0 (Kd.R Kd.string 9 wc w.heap.size (fun k_ => some k_ ≠ (v133 : Value).ownBlock) v137 t136) ∧ Aside0 (wc.heap[gb130]? = some (.cells #[.int .u64 0, .int .u64 0, .string (⟨#[]⟩ : ByteArray), (.slice none 0 0)] 26 (0, 0))) ∧ Aside0 (Below w.heap.size w wc))
  case first =>
   have H := HC5.out
   clear HC5
   by_cases c10 : (t132.length : Int) = 3
   ·rw [if_pos c10] at H
    have c10b0 : ((t132.length : Int) == 3) = true := beq_iff_eq.mpr c10
    have c10b1 : ((t132.length : Int) != 3) = false := bne_eq_false_iff_eq.mpr c10
    clear c10
    (first | rw [c10b0] | (simp only [i64_w, i32_w]; rw [c10b0]) | skip)
    have H' := Aside0.mk H
    clear H
    obtain ⟨Ao11, co11, eo11⟩ := Kd.R_slice HO134.out
    subst eo11
    obtain ⟨Ao12, co12, eo12⟩ := Kd.R_slice HO138.out
    subst eo12
    go_wp2
    go_meet
    case rel => exact ⟨_, (((t136.length : Int) != 3)), (by first | rfl | (simp; done) | (simp [*]; done)), H', ⟨by first | omega | exact Nat.le_refl _⟩, ⟨by (with_reducible repeat (first | apply Kd.R_alloc | apply Kd.R_drewN | apply Kd.R_drew)); exact Kd.R_mono HO134.out (fun _ hk => hk.2)⟩, ⟨by (with_reducible repeat (first | apply Kd.R_alloc | apply Kd.R_drewN | apply Kd.R_drew)); exact Kd.R_mono HO138.out (fun _ hk => hk.2)⟩, ⟨by (with_reducible repeat (first | refine blk_drewN ?_ _ | refine blk_drew ?_ | refine blk_alloc ?_ _)); exact BK130.out⟩, ⟨by repeat (first | (with_reducible first | exact HB.out | apply below_alloc | apply pw_below_drewN | apply below_drew1 | refine below_set ?_ GE130.out) | exact HB.out)⟩⟩
   ·rw [if_neg c10] at H
    have c10b0 : ((t132.length : Int) == 3) = false := beq_eq_false_iff_ne.mpr c10
    have c10b1 : ((t132.length : Int) != 3) = true := bne_iff_ne.mpr c10
    (first | rw [c10b0] | (simp only [i64_w, i32_w]; rw [c10b0]) | skip)
    have H' := Aside0.mk H
    clear H
    obtain ⟨Ao13, co13, eo13⟩ := Kd.R_slice HO134.out
    subst eo13
    go_wp2
    go_meet
    case rel => exact ⟨_, (true), (by first | rfl | (simp; done) | (simp [*]; done)), H', ⟨by first | omega | exact Nat.le_refl _⟩, ⟨by (with_reducible repeat (first | apply Kd.R_alloc | apply Kd.R_drewN | apply Kd.R_drew)); exact Kd.R_mono HO134.out (fun _ hk => hk.2)⟩, ⟨by (with_reducible repeat (first | apply Kd.R_alloc | apply Kd.R_drewN | apply Kd.R_drew)); exact Kd.R_mono HO138.out (fun _ hk => hk.2)⟩, ⟨by (with_reducible repeat (first | refine blk_drewN ?_ _ | refine blk_drew ?_ | refine blk_alloc ?_ _)); exact BK130.out⟩, ⟨by repeat (first | (with_reducible first | exact HB.out | apply below_alloc | apply pw_below_drewN | apply below_drew1 | refine below_set ?_ GE130.out) | exact HB.out)⟩⟩
  case rest =>
   clear HC5
   try clear c1
   try clear p1
   try clear q1
   try clear hx1
   try clear qi1
   try clear c2
   try clear c2b0
   try clear c2b1
   try clear p2
   try clear c3
   try clear c4
   try clear c10
   try clear c10b0
   try clear c10b1
   try clear p13
   try clear q13
   try clear hx13
   try clear qi13
   try clear hx131_0
   try clear hx131_1
   try clear hx135_0
   try clear hx135_1
   try clear p131
   try clear p135
   try clear q131
   try clear q135
   obtain ⟨kq, x32_4, rfl, HA, HJ4, HO_5, HO_6, BK130, HB⟩ := hcut
   cases kq with
   | zero => exact absurd HA.out (by simp [journal_first.j0])
   | succ kj4 =>
    have H := HA.out
    clear HA
    simp only [journal_first.j0] at H
    by_cases c14 : x32_4 = true
    ·subst c14
     have H1 : (some (0, 0, (⟨#[]⟩ : ByteArray), ([] : List (S42)), 0, false)) = some (r1, r2, r3, r4, r5, r6) := by rw [if_pos rfl] at H; exact H
     clear H
     have H := H1
     clear H1
     simp only [Option.some.injEq, Prod.mk.injEq] at H
     obtain ⟨rfl, rfl, rfl, rfl, rfl, rfl⟩ := H
     have hcz15_0 : wc.cell? ⟨gb130, 0, none⟩ = some (.int .u64 0) := (blk_cell BK130.out 0).trans rfl
     have hcz15_1 : wc.cell? ⟨gb130, 1, none⟩ = some (.int .u64 0) := (blk_cell BK130.out 1).trans rfl
     have hcz15_2 : wc.cell? ⟨gb130, 2, none⟩ = some (.string (⟨#[]⟩ : ByteArray)) := (blk_cell BK130.out 2).trans rfl
     have hcz15_3 : wc.cell? ⟨gb130, 3, none⟩ = some (.slice none 0 0) := (blk_cell BK130.out 3).trans rfl
     have hfz15_0 := blk_frozen BK130.out 0
     have hfz15_1 := blk_frozen BK130.out 1
     have hfz15_2 := blk_frozen BK130.out 2
     have hfz15_3 := blk_frozen BK130.out 3
     go_wp2
     refine bodyPost_ret (results_ctt rfl _ _ gb130 26 #[.int .u64 0, .int .u64 0, .string (⟨#[]⟩ : ByteArray), .slice none 0 0] (0, 0) _ rfl (by (with_reducible repeat (first | refine blk_drewN ?_ _ | refine blk_drew ?_ | refine blk_alloc ?_ _)); refine blk_put (cs := #[.int .u64 0, .int .u64 0, .string (⟨#[]⟩ : ByteArray), .slice none 0 0]) ?_ 3 _ rfl; (with_reducible repeat (first | refine blk_drewN ?_ _ | refine blk_drew ?_ | refine blk_alloc ?_ _)); refine blk_put (cs := #[.int .u64 0, .int .u64 0, .string (⟨#[]⟩ : ByteArray), .slice none 0 0]) ?_ 2 _ rfl; (with_reducible repeat (first | refine blk_drewN ?_ _ | refine blk_drew ?_ | refine blk_alloc ?_ _)); refine blk_put (cs := #[.int .u64 0, .int .u64 0, .string (⟨#[]⟩ : ByteArray), .slice none 0 0]) ?_ 1 _ rfl; (with_reducible repeat (first | refine blk_drewN ?_ _ | refine blk_drew ?_ | refine blk_alloc ?_ _)); refine blk_put (cs := #[.int .u64 0, .int .u64 0, .string (⟨#[]⟩ : ByteArray), .slice none 0 0]) ?_ 0 _ rfl; (with_reducible repeat (first | refine blk_drewN ?_ _ | refine blk_drew ?_ | refine blk_alloc ?_ _)); exact BK130.out) Tryd.underlying26 rfl (by kernel_rfl)) rfl ?_
     exact ⟨_, by first | rfl | (simp [errW_none, errW_some] <;> rfl) | (simp [*, errW_none, errW_some] <;> rfl), by first | exact Kd.R_nil _ _ _ _ _ | exact Kd.N_nil _ _ _ _ _ | exact Kd.V_nil _ _ _ _ _ | exact Kd.Q_nil _ _ _ _ _ | exact Kd.S_nil _ _ _ _ _, by repeat (first | (with_reducible first | exact HB.out | apply below_alloc | apply pw_below_drewN | apply below_drew1 | refine below_set ?_ GE130.out) | exact HB.out)⟩
    ·replace c14 := Bool.eq_false_iff.mpr c14
     subst c14
     have H1 : (if 1 < (t136.length : Int) then (if 1 < (t132.length : Int) then ((label_Number.f (rdOf ByteArray.empty t132 1)).bind fun bt141 => (if 0 < (t136.length : Int) then ((label_Number.f (rdOf ByteArray.empty t136 0)).bind fun bt144 => (if 2 < (t136.length : Int) then ((coin_Parse.f (rdOf ByteArray.empty t136 2)).bind fun bt147 => (if bt141.2 = 0 then (if bt144.2 = 0 then (if bt147.2 = 0 then (if bt147.1 < 0 then (journal_first.j1 kj4 l0 bt147.1 true bt141.1 bt144.1 (rdOf ByteArray.empty t136 1)) else (journal_first.j1 kj4 l0 bt147.1 (decide (bt147.1 > (wrap64 ((l0.length : Int) - 1)))) bt141.1 bt144.1 (rdOf ByteArray.empty t136 1))) else (journal_first.j1 kj4 l0 bt147.1 true bt141.1 bt144.1 (rdOf ByteArray.empty t136 1))) else (journal_first.j1 kj4 l0 bt147.1 true bt141.1 bt144.1 (rdOf ByteArray.empty t136 1))) else (journal_first.j1 kj4 l0 bt147.1 true bt141.1 bt144.1 (rdOf ByteArray.empty t136 1)))) else (none))) else (none))) else (none)) else (none)) = some (r1, r2, r3, r4, r5, r6) := by rw [if_neg (show ¬ (false = true) by decide)] at H; exact H
     clear H
     have H := H1
     clear H1
     by_cases c16 : 1 < (t136.length : Int)
     ·rw [if_pos c16] at H
      have c16b0 : decide (1 < (t136.length : Int)) = true := decide_eq_true c16
      have c16b1 : decide (1 < t136.length) = true := decide_eq_true (by omega)
      clear c16
      by_cases c17 : 1 < (t132.length : Int)
      ·rw [if_pos c17] at H
       have c17b0 : decide (1 < (t132.length : Int)) = true := decide_eq_true c17
       have c17b1 : decide (1 < t132.length) = true := decide_eq_true (by omega)
       clear c17
       replace H := Option.bind_eq_some_iff.mp H
       obtain ⟨⟨t141, t142⟩, A180, H⟩ := H
       replace H : (if 0 < (t136.length : Int) then ((label_Number.f (rdOf ByteArray.empty t136 0)).bind fun bt144 => (if 2 < (t136.length : Int) then ((coin_Parse.f (rdOf ByteArray.empty t136 2)).bind fun bt147 => (if t142 = 0 then (if bt144.2 = 0 then (if bt147.2 = 0 then (if bt147.1 < 0 then (journal_first.j1 kj4 l0 bt147.1 true t141 bt144.1 (rdOf ByteArray.empty t136 1)) else (journal_first.j1 kj4 l0 bt147.1 (decide (bt147.1 > (wrap64 ((l0.length : Int) - 1)))) t141 bt144.1 (rdOf ByteArray.empty t136 1))) else (journal_first.j1 kj4 l0 bt147.1 true t141 bt144.1 (rdOf ByteArray.empty t136 1))) else (journal_first.j1 kj4 l0 bt147.1 true t141 bt144.1 (rdOf ByteArray.empty t136 1))) else (journal_first.j1 kj4 l0 bt147.1 true t141 bt144.1 (rdOf ByteArray.empty t136 1)))) else (none))) else (none)) = some (r1, r2, r3, r4, r5, r6) := H
       have A18 := Aside0.mk A180
       clear A180
       by_cases c19 : 0 < (t136.length : Int)
       ·rw [if_pos c19] at H
        have c19b0 : decide (0 < (t136.length : Int)) = true := decide_eq_true c19
        have c19b1 : decide (0 < t136.length) = true := decide_eq_true (by omega)
        clear c19
        replace H := Option.bind_eq_some_iff.mp H
        obtain ⟨⟨t144, t145⟩, A200, H⟩ := H
        replace H : (if 2 < (t136.length : Int) then ((coin_Parse.f (rdOf ByteArray.empty t136 2)).bind fun bt147 => (if t142 = 0 then (if t145 = 0 then (if bt147.2 = 0 then (if bt147.1 < 0 then (journal_first.j1 kj4 l0 bt147.1 true t141 t144 (rdOf ByteArray.empty t136 1)) else (journal_first.j1 kj4 l0 bt147.1 (decide (bt147.1 > (wrap64 ((l0.length : Int) - 1)))) t141 t144 (rdOf ByteArray.empty t136 1))) else (journal_first.j1 kj4 l0 bt147.1 true t141 t144 (rdOf ByteArray.empty t136 1))) else (journal_first.j1 kj4 l0 bt147.1 true t141 t144 (rdOf ByteArray.empty t136 1))) else (journal_first.j1 kj4 l0 bt147.1 true t141 t144 (rdOf ByteArray.empty t136 1)))) else (none)) = some (r1, r2, r3, r4, r5, r6) := H
        have A20 := Aside0.mk A200
        clear A200
        by_cases c21 : 2 < (t136.length : Int)
        ·rw [if_pos c21] at H
         have c21b0 : decide (2 < (t136.length : Int)) = true := decide_eq_true c21
         have c21b1 : decide (2 < t136.length) = true := decide_eq_true (by omega)
         clear c21
         replace H := Option.bind_eq_some_iff.mp H
         obtain ⟨⟨t147, t148⟩, A220, H⟩ := H
         replace H : (if t142 = 0 then (if t145 = 0 then (if t148 = 0 then (if t147 < 0 then (journal_first.j1 kj4 l0 t147 true t141 t144 (rdOf ByteArray.empty t136 1)) else (journal_first.j1 kj4 l0 t147 (decide (t147 > (wrap64 ((l0.length : Int) - 1)))) t141 t144 (rdOf ByteArray.empty t136 1))) else (journal_first.j1 kj4 l0 t147 true t141 t144 (rdOf ByteArray.empty t136 1))) else (journal_first.j1 kj4 l0 t147 true t141 t144 (rdOf ByteArray.empty t136 1))) else (journal_first.j1 kj4 l0 t147 true t141 t144 (rdOf ByteArray.empty t136 1))) = some (r1, r2, r3, r4, r5, r6) := H
         have A22 := Aside0.mk A220
         clear A220
         have HC23 := Aside0.mk H
         clear H
         obtain ⟨Ao24, co24, eo24⟩ := Kd.R_slice HO_6.out
         subst eo24
         have p139 : 0 ≤ (1 : Int) := (by omega)
         have q139 : 1 < (t136.length : Int) := of_decide_eq_true (by first | (with_reducible assumption) | assumption)
         obtain ⟨ad139, e139, hx139_0⟩ := Kd.at_string (Kd.R_reads' HO_6.out).2.2 1 p139 q139
         cases e139
         (try simp only [show (1 : Int).toNat = 1 from rfl, Nat.reduceMul, Nat.reduceEqDiff, Go.Addr.add, ↓reduceIte] at hx139_0)
         have qi139 : (1 < t136.length) = True := eq_true (by omega)
         (try rw [show ((1 : Int)).toNat = 1 from rfl] at hx139_0)
         replace p139 := eq_true p139
         replace q139 := eq_true q139
         have hcz25_0 : wc.cell? ⟨gb130, 0, none⟩ = some (.int .u64 0) := (blk_cell BK130.out 0).trans rfl
         have hcz25_1 : wc.cell? ⟨gb130, 1, none⟩ = some (.int .u64 0) := (blk_cell BK130.out 1).trans rfl
         have hcz25_2 : wc.cell? ⟨gb130, 2, none⟩ = some (.string (⟨#[]⟩ : ByteArray)) := (blk_cell BK130.out 2).trans rfl
         have hcz25_3 : wc.cell? ⟨gb130, 3, none⟩ = some (.slice none 0 0) := (blk_cell BK130.out 3).trans rfl
         have hfz25_0 := blk_frozen BK130.out 0
         have hfz25_1 := blk_frozen BK130.out 1
         have hfz25_2 := blk_frozen BK130.out 2
         have hfz25_3 := blk_frozen BK130.out 3
         obtain ⟨Ao26, co26, eo26⟩ := Kd.R_slice HO_5.out
         subst eo26
         have p140 : 0 ≤ (1 : Int) := (by omega)
         have q140 : 1 < (t132.length : Int) := of_decide_eq_true (by first | (with_reducible assumption) | assumption)
         obtain ⟨ad140, e140, hx140_0⟩ := Kd.at_string (Kd.R_reads' HO_5.out).2.2 1 p140 q140
         cases e140
         (try simp only [show (1 : Int).toNat = 1 from rfl, Nat.reduceMul, Nat.reduceEqDiff, Go.Addr.add, ↓reduceIte] at hx140_0)
         have qi140 : (1 < t132.length) = True := eq_true (by omega)
         (try rw [show ((1 : Int)).toNat = 1 from rfl] at hx140_0)
         have hn140_0 : ad140.block ≠ gb130 := Kd.own_blk (Kd.R_ne HO_5.out BK130.out (by decide))
         replace hx140_0 := (cell_far (p := ⟨gb130, 2, none⟩) (by first | (rw [add_block]; exact hn140_0) | (show (Addr.add _ _).block ≠ _; rw [add_block]; exact hn140_0) | exact hn140_0) (.string (rdOf ByteArray.empty t136 1))).trans hx140_0
         clear hn140_0
         replace p140 := eq_true p140
         replace q140 := eq_true q140
         go_upto_region 9 with (first | ((with_reducible refine gate_callee (f := 46) rfl ?_); refine goesL_ (some 42) rfl rfl Tryd.func46 (by kernel_rfl) rfl #[.string (rdOf ByteArray.empty t132 1)] rfl (by (try simp only [List.map_toArray, List.map_cons, List.map_nil]); first | done | rfl | (simp only [List.length_drop, List.length_take]; rfl)) ?_; (with_reducible refine (label_Number.calls (rdOf ByteArray.empty t132 1) t141 t142 _ ?side1 A18.out).mono ?_); (case side1 => exact Glob.below HG.out (by repeat (first | (with_reducible first | exact HB.out | apply below_alloc | apply pw_below_drewN | apply below_drew1 | refine below_set ?_ GE130.out) | exact HB.out))); rintro e w27 ⟨rfl, hb⟩; refine ⟨_, rfl, ?_⟩; have n0_ := Aside0.mk (Kd.R_below (by (with_reducible repeat (first | apply Kd.R_alloc | apply Kd.R_drewN | apply Kd.R_drew)); exact (Kd.R_mono (Kd.R_far (p := ⟨gb130, 2, none⟩) (Kd.R_types HO_5.out BK130.out (by decide)) (fun _ hk => hk.2) (.string (rdOf ByteArray.empty t136 1))) (fun _ h_ => h_.1))) hb); have n1_ := Aside0.mk (Kd.R_below (by (with_reducible repeat (first | apply Kd.R_alloc | apply Kd.R_drewN | apply Kd.R_drew)); exact (Kd.R_mono (Kd.R_far (p := ⟨gb130, 2, none⟩) (Kd.R_types HO_6.out BK130.out (by decide)) (fun _ hk => hk.2) (.string (rdOf ByteArray.empty t136 1))) (fun _ h_ => h_.1))) hb); have n2_ := Aside0.mk (blk_below (g := gb130) (o := .cells #[.int .u64 0, .int .u64 0, .string (rdOf ByteArray.empty t136 1), .slice none 0 0] 26 (0, 0)) (by (with_reducible repeat (first | refine blk_drewN ?_ _ | refine blk_drew ?_ | refine blk_alloc ?_ _)); refine blk_put (cs := #[.int .u64 0, .int .u64 0, .string (⟨#[]⟩ : ByteArray), .slice none 0 0]) ?_ 2 _ rfl; (with_reducible repeat (first | refine blk_drewN ?_ _ | refine blk_drew ?_ | refine blk_alloc ?_ _)); exact BK130.out) hb); have n3_ := Aside0.mk (below_step (by repeat (first | (with_reducible first | exact HB.out | apply below_alloc | apply pw_below_drewN | apply below_drew1 | refine below_set ?_ GE130.out) | exact HB.out)) hb); clear HO_5; clear HO_6; clear BK130; clear HB; have HO_5 := n0_; have HO_6 := n1_; have BK130 := n2_; have HB := n3_; clear n0_ n1_ n2_ n3_; (try clear hb); (try clear hb2); (try clear hk); (try clear hi); have hcz28_0 : w27.cell? ⟨gb130, 0, none⟩ = some (.int .u64 0) := (blk_cell BK130.out 0).trans rfl; have hcz28_1 : w27.cell? ⟨gb130, 1, none⟩ = some (.int .u64 0) := (blk_cell BK130.out 1).trans rfl; have hcz28_2 : w27.cell? ⟨gb130, 2, none⟩ = some (.string (rdOf ByteArray.empty t136 1)) := (blk_cell BK130.out 2).trans rfl; have hcz28_3 : w27.cell? ⟨gb130, 3, none⟩ = some (.slice none 0 0) := (blk_cell BK130.out 3).trans rfl; have hfz28_0 := blk_frozen BK130.out 0; have hfz28_1 := blk_frozen BK130.out 1; have hfz28_2 := blk_frozen BK130.out 2; have hfz28_3 := blk_frozen BK130.out 3; have p143 : 0 ≤ (0 : Int) := (by omega); have q143 : 0 < (t136.length : Int) := of_decide_eq_true (by first | (with_reducible assumption) | assumption); obtain ⟨ad143, e143, hx143_0⟩ := Kd.at_string (Kd.R_reads' HO_6.out).2.2 0 p143 q143; obtain rfl : ad139 = ad143 := (by injection e143); have qi143 : (0 < t136.length) = True := eq_true (by omega); (try rw [show ((0 : Int)).toNat = 0 from rfl] at hx143_0); (try rw [Addr.add_zero'] at hx143_0); have hn143_0 : ad139.block ≠ gb130 := Kd.own_blk (Kd.R_ne HO_6.out BK130.out (by decide)); replace hx143_0 := (cell_far (p := ⟨gb130, 0, none⟩) (by first | (rw [add_block]; exact hn143_0) | (show (Addr.add _ _).block ≠ _; rw [add_block]; exact hn143_0) | exact hn143_0) (.int .u64 t141)).trans hx143_0; clear hn143_0; replace p143 := eq_true p143; replace q143 := eq_true q143) | ((with_reducible refine gate_callee (f := 46) rfl ?_); refine goesL_ (some 50) rfl rfl Tryd.func46 (by kernel_rfl) rfl #[.string (rdOf ByteArray.empty t136 0)] rfl (by (try simp only [List.map_toArray, List.map_cons, List.map_nil]); first | done | rfl | (simp only [List.length_drop, List.length_take]; rfl)) ?_; (with_reducible refine (label_Number.calls (rdOf ByteArray.empty t136 0) t144 t145 _ ?side1 A20.out).mono ?_); (case side1 => exact Glob.below HG.out (by repeat (first | (with_reducible first | exact HB.out | apply below_alloc | apply pw_below_drewN | apply below_drew1 | refine below_set ?_ GE130.out) | exact HB.out))); rintro e w29 ⟨rfl, hb⟩; refine ⟨_, rfl, ?_⟩; have n0_ := Aside0.mk (Kd.R_below (by (with_reducible repeat (first | apply Kd.R_alloc | apply Kd.R_drewN | apply Kd.R_drew)); exact (Kd.R_mono (Kd.R_far (p := ⟨gb130, 0, none⟩) (Kd.R_types HO_5.out BK130.out (by decide)) (fun _ hk => hk.2) (.int .u64 t141)) (fun _ h_ => h_.1))) hb); have n1_ := Aside0.mk (Kd.R_below (by (with_reducible repeat (first | apply Kd.R_alloc | apply Kd.R_drewN | apply Kd.R_drew)); exact (Kd.R_mono (Kd.R_far (p := ⟨gb130, 0, none⟩) (Kd.R_types HO_6.out BK130.out (by decide)) (fun _ hk => hk.2) (.int .u64 t141)) (fun _ h_ => h_.1))) hb); have n2_ := Aside0.mk (blk_below (g := gb130) (o := .cells #[.int .u64 t141, .int .u64 0, .string (rdOf ByteArray.empty t136 1), .slice none 0 0] 26 (0, 0)) (by (with_reducible repeat (first | refine blk_drewN ?_ _ | refine blk_drew ?_ | refine blk_alloc ?_ _)); refine blk_put (cs := #[.int .u64 0, .int .u64 0, .string (rdOf ByteArray.empty t136 1), .slice none 0 0]) ?_ 0 _ rfl; (with_reducible repeat (first | refine blk_drewN ?_ _ | refine blk_drew ?_ | refine blk_alloc ?_ _)); exact BK130.out) hb); have n3_ := Aside0.mk (below_step (by repeat (first | (with_reducible first | exact HB.out | apply below_alloc | apply pw_below_drewN | apply below_drew1 | refine below_set ?_ GE130.out) | exact HB.out)) hb); clear HO_5; clear HO_6; clear BK130; clear HB; have HO_5 := n0_; have HO_6 := n1_; have BK130 := n2_; have HB := n3_; clear n0_ n1_ n2_ n3_; (try clear hb); (try clear hb2); (try clear hk); (try clear hi); have hcz30_0 : w29.cell? ⟨gb130, 0, none⟩ = some (.int .u64 t141) := (blk_cell BK130.out 0).trans rfl; have hcz30_1 : w29.cell? ⟨gb130, 1, none⟩ = some (.int .u64 0) := (blk_cell BK130.out 1).trans rfl; have hcz30_2 : w29.cell? ⟨gb130, 2, none⟩ = some (.string (rdOf ByteArray.empty t136 1)) := (blk_cell BK130.out 2).trans rfl; have hcz30_3 : w29.cell? ⟨gb130, 3, none⟩ = some (.slice none 0 0) := (blk_cell BK130.out 3).trans rfl; have hfz30_0 := blk_frozen BK130.out 0; have hfz30_1 := blk_frozen BK130.out 1; have hfz30_2 := blk_frozen BK130.out 2; have hfz30_3 := blk_frozen BK130.out 3; have p146 : 0 ≤ (2 : Int) := (by omega); have q146 : 2 < (t136.length : Int) := of_decide_eq_true (by first | (with_reducible assumption) | assumption); obtain ⟨ad146, e146, hx146_0⟩ := Kd.at_string (Kd.R_reads' HO_6.out).2.2 2 p146 q146; obtain rfl : ad139 = ad146 := (by injection e146); (try simp only [show (2 : Int).toNat = 2 from rfl, Nat.reduceMul, Nat.reduceEqDiff, Go.Addr.add, ↓reduceIte] at hx146_0); have qi146 : (2 < t136.length) = True := eq_true (by omega); (try rw [show ((2 : Int)).toNat = 2 from rfl] at hx146_0); have hn146_0 : ad139.block ≠ gb130 := Kd.own_blk (Kd.R_ne HO_6.out BK130.out (by decide)); replace hx146_0 := (cell_far (p := ⟨gb130, 1, none⟩) (by first | (rw [add_block]; exact hn146_0) | (show (Addr.add _ _).block ≠ _; rw [add_block]; exact hn146_0) | exact hn146_0) (.int .u64 t144)).trans hx146_0; clear hn146_0; replace p146 := eq_true p146; replace q146 := eq_true q146) | ((with_reducible refine gate_callee (f := 47) rfl ?_); refine goesL_ (some 58) rfl rfl Tryd.func47 (by kernel_rfl) rfl #[.string (rdOf ByteArray.empty t136 2)] rfl (by (try simp only [List.map_toArray, List.map_cons, List.map_nil]); first | done | rfl | (simp only [List.length_drop, List.length_take]; rfl)) ?_; (with_reducible refine (coin_Parse.calls (rdOf ByteArray.empty t136 2) t147 t148 _ ?side1 A22.out).mono ?_); (case side1 => exact Glob.below HG.out (by repeat (first | (with_reducible first | exact HB.out | apply below_alloc | apply pw_below_drewN | apply below_drew1 | refine below_set ?_ GE130.out) | exact HB.out))); rintro e w31 ⟨rfl, hb⟩; refine ⟨_, rfl, ?_⟩; have n0_ := Aside0.mk (Kd.R_below (by (with_reducible repeat (first | apply Kd.R_alloc | apply Kd.R_drewN | apply Kd.R_drew)); exact (Kd.R_mono (Kd.R_far (p := ⟨gb130, 1, none⟩) (Kd.R_types HO_5.out BK130.out (by decide)) (fun _ hk => hk.2) (.int .u64 t144)) (fun _ h_ => h_.1))) hb); have n1_ := Aside0.mk (Kd.R_below (by (with_reducible repeat (first | apply Kd.R_alloc | apply Kd.R_drewN | apply Kd.R_drew)); exact (Kd.R_mono (Kd.R_far (p := ⟨gb130, 1, none⟩) (Kd.R_types HO_6.out BK130.out (by decide)) (fun _ hk => hk.2) (.int .u64 t144)) (fun _ h_ => h_.1))) hb); have n2_ := Aside0.mk (blk_below (g := gb130) (o := .cells #[.int .u64 t141, .int .u64 t144, .string (rdOf ByteArray.empty t136 1), .slice none 0 0] 26 (0, 0)) (by (with_reducible repeat (first | refine blk_drewN ?_ _ | refine blk_drew ?_ | refine blk_alloc ?_ _)); refine blk_put (cs := #[.int .u64 t141, .int .u64 0, .string (rdOf ByteArray.empty t136 1), .slice none 0 0]) ?_ 1 _ rfl; (with_reducible repeat (first | refine blk_drewN ?_ _ | refine blk_drew ?_ | refine blk_alloc ?_ _)); exact BK130.out) hb); have n3_ := Aside0.mk (below_step (by repeat (first | (with_reducible first | exact HB.out | apply below_alloc | apply pw_below_drewN | apply below_drew1 | refine below_set ?_ GE130.out) | exact HB.out)) hb); clear HO_5; clear HO_6; clear BK130; clear HB; have HO_5 := n0_; have HO_6 := n1_; have BK130 := n2_; have HB := n3_; clear n0_ n1_ n2_ n3_; (try clear hb); (try clear hb2); (try clear hk); (try clear hi)))
         (try simp only [Act.put, List.setIfInBounds_toArray, List.set_cons_zero, List.set_cons_succ])
         go_cut [81] (fun v81 wc => ∃ (kq : Nat) (x81_22 : Bool), v81 = .bool x81_22 ∧ Aside0 (journal_first.j1 kq l0 t147 x81_22 t141 t144 (rdOf ByteArray.empty t136 1) = some (r1, r2, r3, r4, r5, r6)) ∧ Aside0 (kq ≤ kj4) ∧ Aside0 (wc.heap[gb130]? = some (.cells #[.int .u64 t141, .int .u64 t144, .string (rdOf ByteArray.empty t136 1), (.slice none 0 0)] 26 (0, 0))) ∧ Aside0 (Below w.heap.size w wc))
         case first =>
          have H := HC23.out
          clear HC23
          by_cases c32 : t142 = 0
          ·rw [if_pos c32] at H
           have c32b0 : (t142 == 0) = true := beq_iff_eq.mpr c32
           have c32b1 : (t142 != 0) = false := bne_eq_false_iff_eq.mpr c32
           clear c32
           (first | rw [c32b0] | (simp only [i64_w, i32_w]; rw [c32b0]) | skip)
           by_cases c33 : t145 = 0
           ·rw [if_pos c33] at H
            have c33b0 : (t145 == 0) = true := beq_iff_eq.mpr c33
            have c33b1 : (t145 != 0) = false := bne_eq_false_iff_eq.mpr c33
            clear c33
            by_cases c34 : t148 = 0
            ·rw [if_pos c34] at H
             have c34b0 : (t148 == 0) = true := beq_iff_eq.mpr c34
             have c34b1 : (t148 != 0) = false := bne_eq_false_iff_eq.mpr c34
             clear c34
             by_cases c35 : t147 < 0
             ·rw [if_pos c35] at H
              have c35b0 : decide (t147 < 0) = true := decide_eq_true c35
              clear c35
              have H' := Aside0.mk H
              clear H
              go_wp2
              go_meet
              case rel => exact ⟨_, (true), (by first | rfl | (simp; done) | (simp [*]; done)), H', ⟨by have := HJ4.out; first | omega | exact Nat.le_refl _⟩, ⟨by (with_reducible repeat (first | refine blk_drewN ?_ _ | refine blk_drew ?_ | refine blk_alloc ?_ _)); exact BK130.out⟩, ⟨by repeat (first | (with_reducible first | exact HB.out | apply below_alloc | apply pw_below_drewN | apply below_drew1 | refine below_set ?_ GE130.out) | exact HB.out)⟩⟩
             ·rw [if_neg c35] at H
              have c35b0 : decide (t147 < 0) = false := decide_eq_false c35
              clear c35
              have H' := Aside0.mk H
              clear H
              go_wp2
              go_meet
              case rel => exact ⟨_, (decide (t147 > (wrap64 ((l0.length : Int) - 1)))), (by first | rfl | (simp; done) | (simp [*]; done)), H', ⟨by have := HJ4.out; first | omega | exact Nat.le_refl _⟩, ⟨by (with_reducible repeat (first | refine blk_drewN ?_ _ | refine blk_drew ?_ | refine blk_alloc ?_ _)); exact BK130.out⟩, ⟨by repeat (first | (with_reducible first | exact HB.out | apply below_alloc | apply pw_below_drewN | apply below_drew1 | refine below_set ?_ GE130.out) | exact HB.out)⟩⟩
            ·rw [if_neg c34] at H
             have c34b0 : (t148 == 0) = false := beq_eq_false_iff_ne.mpr c34
             have c34b1 : (t148 != 0) = true := bne_iff_ne.mpr c34
             have H' := Aside0.mk H
             clear H
             go_wp2
             go_meet
             case rel => exact ⟨_, (true), (by first | rfl | (simp; done) | (simp [*]; done)), H', ⟨by have := HJ4.out; first | omega | exact Nat.le_refl _⟩, ⟨by (with_reducible repeat (first | refine blk_drewN ?_ _ | refine blk_drew ?_ | refine blk_alloc ?_ _)); exact BK130.out⟩, ⟨by repeat (first | (with_reducible first | exact HB.out | apply below_alloc | apply pw_below_drewN | apply below_drew1 | refine below_set ?_ GE130.out) | exact HB.out)⟩⟩
           ·rw [if_neg c33] at H
            have c33b0 : (t145 == 0) = false := beq_eq_false_iff_ne.mpr c33
            have c33b1 : (t145 != 0) = true := bne_iff_ne.mpr c33
            have H' := Aside0.mk H
            clear H
            go_wp2
            go_meet
            case rel => exact ⟨_, (true), (by first | rfl | (simp; done) | (simp [*]; done)), H', ⟨by have := HJ4.out; first | omega | exact Nat.le_refl _⟩, ⟨by (with_reducible repeat (first | refine blk_drewN ?_ _ | refine blk_drew ?_ | refine blk_alloc ?_ _)); exact BK130.out⟩, ⟨by repeat (first | (with_reducible first | exact HB.out | apply below_alloc | apply pw_below_drewN | apply below_drew1 | refine below_set ?_ GE130.out) | exact HB.out)⟩⟩
          ·rw [if_neg c32] at H
           have c32b0 : (t142 == 0) = false := beq_eq_false_iff_ne.mpr c32
           have c32b1 : (t142 != 0) = true := bne_iff_ne.mpr c32
           (first | rw [c32b0] | (simp only [i64_w, i32_w]; rw [c32b0]) | skip)
           have H' := Aside0.mk H
           clear H
           go_wp2
           go_meet
           case rel => exact ⟨_, (true), (by first | rfl | (simp; done) | (simp [*]; done)), H', ⟨by have := HJ4.out; first | omega | exact Nat.le_refl _⟩, ⟨by (with_reducible repeat (first | refine blk_drewN ?_ _ | refine blk_drew ?_ | refine blk_alloc ?_ _)); exact BK130.out⟩, ⟨by repeat (first | (with_reducible first | exact HB.out | apply below_alloc | apply pw_below_drewN | apply below_drew1 | refine below_set ?_ GE130.out) | exact HB.out)⟩⟩
         case rest =>
          clear HC23
          try clear c1
          try clear p1
          try clear q1
          try clear hx1
          try clear qi1
          try clear c2
          try clear c2b0
          try clear c2b1
          try clear p2
          try clear c3
          try clear c4
          try clear p6
          try clear c10
          try clear c10b0
          try clear c10b1
          try clear p13
          try clear q13
          try clear hx13
          try clear qi13
          try clear c14
          try clear p14
          try clear q14
          try clear hx14
          try clear qi14
          try clear c16
          try clear c16b0
          try clear c16b1
          try clear c17
          try clear c17b0
          try clear c17b1
          try clear c19
          try clear c19b0
          try clear c19b1
          try clear c21
          try clear c21b0
          try clear c21b1
          try clear c32
          try clear c32b0
          try clear c32b1
          try clear c33
          try clear c33b0
          try clear c33b1
          try clear c34
          try clear c34b0
          try clear c34b1
          try clear c35
          try clear c35b0
          try clear hcz15_0
          try clear hcz15_1
          try clear hcz15_2
          try clear hcz15_3
          try clear hcz25_0
          try clear hcz25_1
          try clear hcz25_2
          try clear hcz25_3
          try clear hcz28_0
          try clear hcz28_1
          try clear hcz28_2
          try clear hcz28_3
          try clear hcz30_0
          try clear hcz30_1
          try clear hcz30_2
          try clear hcz30_3
          try clear hfz15_0
          try clear hfz15_1
          try clear hfz15_2
          try clear hfz15_3
          try clear hfz25_0
          try clear hfz25_1
          try clear hfz25_2
          try clear hfz25_3
          try clear hfz28_0
          try clear hfz28_1
          try clear hfz28_2
          try clear hfz28_3
          try clear hfz30_0
          try clear hfz30_1
          try clear hfz30_2
          try clear hfz30_3
          try clear hx131_0
          try clear hx131_1
          try clear hx135_0
          try clear hx135_1
          try clear hx139_0
          try clear hx140_0
          try clear hx143_0
          try clear hx146_0
          try clear p1
          try clear p13
          try clear p131
          try clear p135
          try clear p139
          try clear p140
          try clear p143
          try clear p146
          try clear p2
          try clear q1
          try clear q13
          try clear q131
          try clear q135
          try clear q139
          try clear q140
          try clear q143
          try clear q146
          obtain ⟨kq, x81_22, rfl, HA, HJ22, BK130, HB⟩ := hcut
          cases kq with
          | zero => exact absurd HA.out (by simp [journal_first.j1])
          | succ kj22 =>
           have H := HA.out
           clear HA
           simp only [journal_first.j1] at H
           by_cases c36 : x81_22 = true
           ·subst c36
            have H1 : (some (t141, t144, (rdOf ByteArray.empty t136 1), ([] : List (S42)), 0, false)) = some (r1, r2, r3, r4, r5, r6) := by rw [if_pos rfl] at H; exact H
            clear H
            have H := H1
            clear H1
            simp only [Option.some.injEq, Prod.mk.injEq] at H
            obtain ⟨rfl, rfl, rfl, rfl, rfl, rfl⟩ := H
            have hcz37_0 : wc.cell? ⟨gb130, 0, none⟩ = some (.int .u64 t141) := (blk_cell BK130.out 0).trans rfl
            have hcz37_1 : wc.cell? ⟨gb130, 1, none⟩ = some (.int .u64 t144) := (blk_cell BK130.out 1).trans rfl
            have hcz37_2 : wc.cell? ⟨gb130, 2, none⟩ = some (.string (rdOf ByteArray.empty t136 1)) := (blk_cell BK130.out 2).trans rfl
            have hcz37_3 : wc.cell? ⟨gb130, 3, none⟩ = some (.slice none 0 0) := (blk_cell BK130.out 3).trans rfl
            have hfz37_0 := blk_frozen BK130.out 0
            have hfz37_1 := blk_frozen BK130.out 1
            have hfz37_2 := blk_frozen BK130.out 2
            have hfz37_3 := blk_frozen BK130.out 3
            go_wp2
            refine bodyPost_ret (results_ctt rfl _ _ gb130 26 #[.int .u64 t141, .int .u64 t144, .string (rdOf ByteArray.empty t136 1), .slice none 0 0] (0, 0) _ rfl (by (with_reducible repeat (first | refine blk_drewN ?_ _ | refine blk_drew ?_ | refine blk_alloc ?_ _)); refine blk_put (cs := #[.int .u64 t141, .int .u64 t144, .string (rdOf ByteArray.empty t136 1), .slice none 0 0]) ?_ 3 _ rfl; (with_reducible repeat (first | refine blk_drewN ?_ _ | refine blk_drew ?_ | refine blk_alloc ?_ _)); refine blk_put (cs := #[.int .u64 t141, .int .u64 t144, .string (rdOf ByteArray.empty t136 1), .slice none 0 0]) ?_ 2 _ rfl; (with_reducible repeat (first | refine blk_drewN ?_ _ | refine blk_drew ?_ | refine blk_alloc ?_ _)); refine blk_put (cs := #[.int .u64 t141, .int .u64 t144, .string (rdOf ByteArray.empty t136 1), .slice none 0 0]) ?_ 1 _ rfl; (with_reducible repeat (first | refine blk_drewN ?_ _ | refine blk_drew ?_ | refine blk_alloc ?_ _)); refine blk_put (cs := #[.int .u64 t141, .int .u64 t144, .string (rdOf ByteArray.empty t136 1), .slice none 0 0]) ?_ 0 _ rfl; (with_reducible repeat (first | refine blk_drewN ?_ _ | refine blk_drew ?_ | refine blk_alloc ?_ _)); exact BK130.out) Tryd.underlying26 rfl (by kernel_rfl)) rfl ?_
            exact ⟨_, by first | rfl | (simp [errW_none, errW_some] <;> rfl) | (simp [*, errW_none, errW_some] <;> rfl), by first | exact Kd.R_nil _ _ _ _ _ | exact Kd.N_nil _ _ _ _ _ | exact Kd.V_nil _ _ _ _ _ | exact Kd.Q_nil _ _ _ _ _ | exact Kd.S_nil _ _ _ _ _, by repeat (first | (with_reducible first | exact HB.out | apply below_alloc | apply pw_below_drewN | apply below_drew1 | refine below_set ?_ GE130.out) | exact HB.out)⟩
           ·replace c36 := Bool.eq_false_iff.mpr c36
            subst c36
            have H1 : (if 1 ≤ (wrap64 (1 + t147)) then (if (wrap64 (1 + t147)) ≤ (l0.length : Int) then ((some ((l0.take ((wrap64 (1 + t147)) : Int).toNat).drop 1 : List (S36))).bind fun y149 => (journal_first.l0 kj22 t147 y149 (y149.length : Int) 0 t141 t144 (rdOf ByteArray.empty t136 1) ([] : List (S42)))) else (none)) else (none)) = some (r1, r2, r3, r4, r5, r6) := by rw [if_neg (show ¬ (false = true) by decide)] at H; exact H
            clear H
            have H := H1
            clear H1
            by_cases c38 : 1 ≤ (wrap64 (1 + t147))
            ·rw [if_pos c38] at H
             have c38b0 := eq_true c38
             have c38b1 : decide (1 ≤ (wrap64 (1 + t147))) = true := decide_eq_true c38
             by_cases c39 : (wrap64 (1 + t147)) ≤ (l0.length : Int)
             ·rw [if_pos c39] at H
              have c39b0 := eq_true c39
              have c39b1 : decide ((wrap64 (1 + t147)) ≤ (l0.length : Int)) = true := decide_eq_true c39
              obtain ⟨y149, hy149⟩ : ∃ y_ : List (S36), y_ = ((l0.take ((wrap64 (1 + t147)) : Int).toNat).drop 1) := ⟨_, rfl⟩
              replace H : (journal_first.l0 kj22 t147 y149 (y149.length : Int) 0 t141 t144 (rdOf ByteArray.empty t136 1) ([] : List (S42))) = some (r1, r2, r3, r4, r5, r6) := by first | (rw [hy149]; with_reducible exact H) | (have H2_ := (Option.bind_some _ _).symm.trans H; rw [hy149]; with_reducible exact H2_) | (have H2_ := (Option.bind_some _ _).symm.trans H; with_reducible exact H2_) | with_reducible exact H | (rw [hy149]; exact H) | exact H
              have Ny149 := Aside0.mk hy149
              clear hy149
              have H' := Aside0.mk H
              clear H
              have q40 : ((wrap64 (1 + t147)) : Int) ≤ ((l0.length : Int) : Int) := of_decide_eq_true (by first | (with_reducible assumption) | assumption)
              obtain ⟨i040, hi040, _, hsz40, _⟩ := info_parts info36
              have hroom40 : l0.length ≤ c0 := HC0.out
              have hC40 : Kd.C k36 _ (some ad131) l0.length l0 := HR0.out
              have ql40 : (1 : Int) ≤ ((wrap64 (1 + t147)) : Int) := of_decide_eq_true (by first | (with_reducible assumption) | assumption)
              have hcut40 := cut_mid (P := Tryd.prog) 28 36 .i64 .i64 Tryd.underlying28 hi040 2 hsz40 (some ad131) l0.length c0 1 (wrap64 (1 + t147)) (by omega) ql40 q40 hroom40
              have hr40 := Kd.C_mid (lo := (1 : Int).toNat) (hi := ((wrap64 (1 + t147)) : Int).toNat) (c := c0) hC40 (by omega) (by omega) hroom40
              obtain ⟨A40, hA40⟩ : ∃ A1, A1 = (if c0 = (1 : Int).toNat then (some ad131) else ((some ad131) : Option Addr).map (·.add ((1 : Int).toNat * 2))) := ⟨_, rfl⟩
              obtain ⟨c40, hc40⟩ : ∃ c1, c1 = c0 - (1 : Int).toNat := ⟨_, rfl⟩
              have hy40 : y149.length = ((wrap64 (1 + t147)) : Int).toNat - (1 : Int).toNat := (by rw [Ny149.out, List.length_drop, List.length_take] <;> omega)
              rw [show ((l0).take ((wrap64 (1 + t147)) : Int).toNat).drop (1 : Int).toNat = y149 from Ny149.out.symm] at hr40
              replace hr40 : Kd.C k36 _ A40 y149.length y149 := (by rw [hA40]; exact hr40)
              rw [← hy40, ← hA40, ← hc40] at hcut40
              have HR152 := Aside0.mk hr40
              have HC152 := Aside0.mk (show y149.length ≤ c40 from by rw [hy40, hc40]; exact Nat.sub_le_sub_right (Nat.le_trans (by omega) hroom40) _)
              clear hr40 hC40 hroom40 hi040 hsz40 hc40
              have KY40 := Aside0.mk hy40
              have KA40 := Aside0.mk hA40
              clear hy40 hA40
              replace q40 := eq_true q40
              go_wp2
              go_loopg [88] kj22 (fun kq v88 w' => ∃ (x88_3 : Int) (x131000_3 : Int) (x131001_3 : Int) (x131002_3 : ByteArray) (x131003_3 : List (S42)) (u131003 : Value), v88 = .int .i64 x88_3 ∧ Aside0 (journal_first.l0 kq t147 y149 (y149.length : Int) x88_3 x131000_3 x131001_3 x131002_3 x131003_3 = some (r1, r2, r3, r4, r5, r6)) ∧ Aside0 (kq ≤ kj22) ∧ Aside0 (Kd.R k42 42 w' w.heap.size (fun _ => True) u131003 x131003_3) ∧ Aside0 (w'.heap[gb130]? = some (.cells #[.int .u64 x131000_3, .int .u64 x131001_3, .string x131002_3, u131003] 26 (0, 0))) ∧ Aside0 (Below w.heap.size w w'))
              case atStart => exact ⟨(0), (t141), (t144), ((rdOf ByteArray.empty t136 1)), (([] : List (S42))), (.slice none 0 0), (by first | rfl | (simp; done) | (simp [*]; done)), H', ⟨Nat.le_refl _⟩, ⟨by first | exact Kd.R_nil _ _ _ _ _ | exact Kd.N_nil _ _ _ _ _ | exact Kd.V_nil _ _ _ _ _ | exact Kd.Q_nil _ _ _ _ _ | exact Kd.S_nil _ _ _ _ _⟩, ⟨by (with_reducible repeat (first | refine blk_drewN ?_ _ | refine blk_drew ?_ | refine blk_alloc ?_ _)); exact BK130.out⟩, ⟨by repeat (first | (with_reducible first | exact HB.out | apply below_alloc | apply pw_below_drewN | apply below_drew1 | refine below_set ?_ GE130.out) | exact HB.out)⟩⟩
              case round =>
               clear H'
               try clear c1
               try clear p1
               try clear q1
               try clear hx1
               try clear qi1
               try clear c2
               try clear c2b0
               try clear c2b1
               try clear p2
               try clear c3
               try clear c4
               try clear q4
               try clear p6
               try clear c10
               try clear c10b0
               try clear c10b1
               try clear p13
               try clear q13
               try clear hx13
               try clear qi13
               try clear c14
               try clear p14
               try clear q14
               try clear hx14
               try clear qi14
               try clear c16
               try clear c16b0
               try clear c16b1
               try clear c17
               try clear c17b0
               try clear c17b1
               try clear c19
               try clear c19b0
               try clear c19b1
               try clear c21
               try clear c21b0
               try clear c21b1
               try clear c32
               try clear c32b0
               try clear c32b1
               try clear c33
               try clear c33b0
               try clear c33b1
               try clear c34
               try clear c34b0
               try clear c34b1
               try clear c35
               try clear c35b0
               try clear c36
               try clear c38
               try clear c38b0
               try clear c38b1
               try clear c39
               try clear c39b0
               try clear c39b1
               try clear c40
               try clear q40
               try clear hcz15_0
               try clear hcz15_1
               try clear hcz15_2
               try clear hcz15_3
               try clear hcz25_0
               try clear hcz25_1
               try clear hcz25_2
               try clear hcz25_3
               try clear hcz28_0
               try clear hcz28_1
               try clear hcz28_2
               try clear hcz28_3
               try clear hcz30_0
               try clear hcz30_1
               try clear hcz30_2
               try clear hcz30_3
               try clear hcz37_0
               try clear hcz37_1
               try clear hcz37_2
               try clear hcz37_3
               try clear hfz15_0
               try clear hfz15_1
               try clear hfz15_2
               try clear hfz15_3
               try clear hfz25_0
               try clear hfz25_1
               try clear hfz25_2
               try clear hfz25_3
               try clear hfz28_0
               try clear hfz28_1
               try clear hfz28_2
               try clear hfz28_3
               try clear hfz30_0
               try clear hfz30_1
               try clear hfz30_2
               try clear hfz30_3
               try clear hfz37_0
               try clear hfz37_1
               try clear hfz37_2
               try clear hfz37_3
               try clear hx131_0
               try clear hx131_1
               try clear hx135_0
               try clear hx135_1
               try clear hx139_0
               try clear hx140_0
               try clear hx143_0
               try clear hx146_0
               try clear p1
               try clear p13
               try clear p131
               try clear p135
               try clear p139
               try clear p14
               try clear p140
               try clear p143
               try clear p146
               try clear p2
               try clear p6
               try clear q1
               try clear q13
               try clear q131
               try clear q135
               try clear q139
               try clear q14
               try clear q140
               try clear q143
               try clear q146
               try clear q40
               obtain ⟨x88_3, x131000_3, x131001_3, x131002_3, x131003_3, u131003, rfl, HA, HK3, HO_131003, BK130, HB⟩ := hrel
               cases gk with
               | zero => exact absurd HA.out (by simp [journal_first.l0])
               | succ k3 =>
                have H := HA.out
                clear HA
                simp only [journal_first.l0] at H
                by_cases c41 : x88_3 < (y149.length : Int)
                ·rw [if_pos c41] at H
                 have c41b0 : decide (x88_3 < (y149.length : Int)) = true := decide_eq_true c41
                 clear c41
                 by_cases c42 : 0 ≤ x88_3
                 ·rw [if_pos c42] at H
                  have c42b0 : decide (0 ≤ x88_3) = true := decide_eq_true c42
                  clear c42
                  by_cases c43 : x88_3 < (y149.length : Int)
                  ·rw [if_pos c43] at H
                   have c43b0 : decide (x88_3 < (y149.length : Int)) = true := decide_eq_true c43
                   clear c43
                   replace H := Option.bind_eq_some_iff.mp H
                   obtain ⟨⟨t155, t156, t157, t158⟩, A440, H⟩ := H
                   replace H : (if t158 = true then (if x131003_3.length < 3518437208883 then (journal_first.l0 k3 t147 y149 (y149.length : Int) (wrap64 (x88_3 + 1)) x131000_3 x131001_3 x131002_3 (x131003_3 ++ [(⟨t155, t156, t157⟩ : S42)])) else (none)) else (some (x131000_3, x131001_3, x131002_3, x131003_3, 0, false))) = some (r1, r2, r3, r4, r5, r6) := H
                   have A44 := Aside0.mk A440
                   clear A440
                   by_cases c45 : t158 = true
                   ·subst c45
                    have H1 : (if x131003_3.length < 3518437208883 then (journal_first.l0 k3 t147 y149 (y149.length : Int) (wrap64 (x88_3 + 1)) x131000_3 x131001_3 x131002_3 (x131003_3 ++ [(⟨t155, t156, t157⟩ : S42)])) else (none)) = some (r1, r2, r3, r4, r5, r6) := by rw [if_pos rfl] at H; exact H
                    clear H
                    have H := H1
                    clear H1
                    by_cases c46 : x131003_3.length < 3518437208883
                    ·rw [if_pos c46] at H
                     have LMc46 := Aside0.mk c46
                     clear c46
                     obtain ⟨y160, hy160⟩ : ∃ y_ : List (S42), y_ = (x131003_3 ++ [(⟨t155, t156, t157⟩ : S42)]) := ⟨_, rfl⟩
                     replace H : (journal_first.l0 k3 t147 y149 (y149.length : Int) (wrap64 (x88_3 + 1)) x131000_3 x131001_3 x131002_3 y160) = some (r1, r2, r3, r4, r5, r6) := by first | (rw [hy160]; with_reducible exact H) | (have H2_ := (Option.bind_some _ _).symm.trans H; rw [hy160]; with_reducible exact H2_) | (have H2_ := (Option.bind_some _ _).symm.trans H; with_reducible exact H2_) | with_reducible exact H | (rw [hy160]; exact H) | exact H
                     have Ny160 := Aside0.mk hy160
                     clear hy160
                     have H' := Aside0.mk H
                     clear H
                     have p153 : 0 ≤ (x88_3 : Int) := of_decide_eq_true (by first | (with_reducible assumption) | assumption)
                     have q153 : x88_3 < (y149.length : Int) := of_decide_eq_true (by first | (with_reducible assumption) | assumption)
                     obtain ⟨ad153, e153, hx153_0, hx153_1⟩ := at_T36 HR152.out x88_3 p153 q153
                     cases e153
                     replace hx153_0 := (HB.out.cell (World.block_lt_of_cell? w _ hx153_0)).trans hx153_0
                     replace hx153_1 := (HB.out.cell (World.block_lt_of_cell? w _ hx153_1)).trans hx153_1
                     replace p153 := eq_true p153
                     replace q153 := eq_true q153
                     go_wp2_with (first | ((with_reducible refine gate_dst (N := 12) rfl ?_); (try (refine gate_guard (by rfl) ?_; dsimp only)); refine box_event ?hg (N := 12) ?hd (cs := #[.string (⟨#[]⟩ : ByteArray), .string (⟨#[]⟩ : ByteArray)]) (t := 36) ?hr ?_; (case hd => rfl); (case hg => rfl); (case hr => first | (go_simp; done) | (go_simp; rfl)); intro gb154 hg w47 hbox hb; have n0_ := Aside0.mk (Kd.R_below (by (with_reducible repeat (first | apply Kd.R_alloc | apply Kd.R_drewN | apply Kd.R_drew)); exact HO_131003.out) hb); have n1_ := Aside0.mk (blk_below (g := gb130) (o := .cells #[.int .u64 x131000_3, .int .u64 x131001_3, .string x131002_3, u131003] 26 (0, 0)) (by (with_reducible repeat (first | refine blk_drewN ?_ _ | refine blk_drew ?_ | refine blk_alloc ?_ _)); exact BK130.out) hb); have n2_ := Aside0.mk (below_step (by repeat (first | (with_reducible first | exact HB.out | apply below_alloc | apply pw_below_drewN | apply below_drew1 | refine below_set ?_ GE130.out) | exact HB.out)) hb); have n3_ := Aside0.mk (hbox); have n4_ := Aside0.mk ((by rw [hg]; exact (below_size (by repeat (first | (with_reducible first | exact HB.out | apply below_alloc | apply pw_below_drewN | apply below_drew1 | refine below_set ?_ GE130.out) | exact HB.out))) : w.heap.size ≤ gb154)); have n5_ := Aside0.mk ((by rw [hg]; exact (below_size (by repeat (first | (with_reducible first | exact HB.out | apply below_alloc | apply pw_below_drewN | apply below_drew1 | refine below_set ?_ GE130.out) | exact HB.out))) : w.heap.size ≤ gb154)); have n6_ := Aside0.mk ((by rw [hg]; exact Nat.ne_of_lt (blk_lt (g := gb130) (o := .cells #[.int .u64 x131000_3, .int .u64 x131001_3, .string x131002_3, u131003] 26 (0, 0)) (by (with_reducible repeat (first | refine blk_drewN ?_ _ | refine blk_drew ?_ | refine blk_alloc ?_ _)); exact BK130.out)) : gb130 ≠ gb154)); have n7_ := Aside0.mk ((by rw [hg]; exact Nat.ne_of_gt (blk_lt (g := gb130) (o := .cells #[.int .u64 x131000_3, .int .u64 x131001_3, .string x131002_3, u131003] 26 (0, 0)) (by (with_reducible repeat (first | refine blk_drewN ?_ _ | refine blk_drew ?_ | refine blk_alloc ?_ _)); exact BK130.out)) : gb154 ≠ gb130)); clear HO_131003; clear BK130; clear HB; have HO_131003 := n0_; have BK130 := n1_; have HB := n2_; have BK154 := n3_; have GW154 := n4_; have GE154 := n5_; have NB130_154 := n6_; have NB154_130 := n7_; clear n0_ n1_ n2_ n3_ n4_ n5_ n6_ n7_; clear hb hbox hg; have hnb48 := NB154_130.out; have hnc48 := NB130_154.out; have hcz49_0 : w47.cell? ⟨gb154, 0, none⟩ = some (.string (⟨#[]⟩ : ByteArray)) := (blk_cell BK154.out 0).trans rfl; have hcz49_1 : w47.cell? ⟨gb154, 1, none⟩ = some (.string (⟨#[]⟩ : ByteArray)) := (blk_cell BK154.out 1).trans rfl; have hfz49_0 := blk_frozen BK154.out 0; have hfz49_1 := blk_frozen BK154.out 1) | ((with_reducible refine gate_callee (f := 48) rfl ?_); refine goesL_ (some 94) rfl rfl Tryd.func48 (by kernel_rfl) rfl #[.agg #[.string ((rd_T36 y149 x88_3).f0), .string ((rd_T36 y149 x88_3).f1)]] rfl (by (try simp only [List.map_toArray, List.map_cons, List.map_nil]); first | done | rfl | (simp only [List.length_drop, List.length_take]; rfl)) ?_; (with_reducible refine (journal_leg.calls ((rd_T36 y149 x88_3).f0) ((rd_T36 y149 x88_3).f1) t155 t156 t157 true _ ?side1 A44.out).mono ?_); (case side1 => exact Glob.below HG.out (by repeat (first | (with_reducible first | exact HB.out | apply below_alloc | apply pw_below_drewN | apply below_drew1 | refine below_set ?_ GE130.out | refine below_set ?_ GE154.out) | exact HB.out))); rintro e w50 ⟨rfl, hb⟩; refine ⟨_, rfl, ?_⟩; have n0_ := Aside0.mk (Kd.R_below (by (with_reducible repeat (first | apply Kd.R_alloc | apply Kd.R_drewN | apply Kd.R_drew)); exact (Kd.R_mono (Kd.R_far (p := ⟨gb154, 1, none⟩) (Kd.R_far (p := ⟨gb154, 0, none⟩) (Kd.R_types HO_131003.out BK154.out (by decide)) (fun _ hk => hk.2) (.string ((rd_T36 y149 x88_3).f0))) (fun _ hk => hk.2) (.string ((rd_T36 y149 x88_3).f1))) (fun _ h_ => h_.1))) hb); have n1_ := Aside0.mk (blk_below (g := gb130) (o := .cells #[.int .u64 x131000_3, .int .u64 x131001_3, .string x131002_3, u131003] 26 (0, 0)) (by (with_reducible repeat (first | refine blk_drewN ?_ _ | refine blk_drew ?_ | refine blk_alloc ?_ _)); refine blk_far ?_ NB130_154.out _; (with_reducible repeat (first | refine blk_drewN ?_ _ | refine blk_drew ?_ | refine blk_alloc ?_ _)); refine blk_far ?_ NB130_154.out _; (with_reducible repeat (first | refine blk_drewN ?_ _ | refine blk_drew ?_ | refine blk_alloc ?_ _)); exact BK130.out) hb); have n2_ := Aside0.mk (blk_below (g := gb154) (o := .cells #[.string ((rd_T36 y149 x88_3).f0), .string ((rd_T36 y149 x88_3).f1)] 36 (0, 0)) (by (with_reducible repeat (first | refine blk_drewN ?_ _ | refine blk_drew ?_ | refine blk_alloc ?_ _)); refine blk_put (cs := #[.string ((rd_T36 y149 x88_3).f0), .string (⟨#[]⟩ : ByteArray)]) ?_ 1 _ rfl; (with_reducible repeat (first | refine blk_drewN ?_ _ | refine blk_drew ?_ | refine blk_alloc ?_ _)); refine blk_put (cs := #[.string (⟨#[]⟩ : ByteArray), .string (⟨#[]⟩ : ByteArray)]) ?_ 0 _ rfl; (with_reducible repeat (first | refine blk_drewN ?_ _ | refine blk_drew ?_ | refine blk_alloc ?_ _)); exact BK154.out) hb); have n3_ := Aside0.mk (below_step (by repeat (first | (with_reducible first | exact HB.out | apply below_alloc | apply pw_below_drewN | apply below_drew1 | refine below_set ?_ GE130.out | refine below_set ?_ GE154.out) | exact HB.out)) hb); clear HO_131003; clear BK130; clear BK154; clear HB; have HO_131003 := n0_; have BK130 := n1_; have BK154 := n2_; have HB := n3_; clear n0_ n1_ n2_ n3_; (try clear hb); (try clear hb2); (try clear hk); (try clear hi)) | ((with_reducible refine gate_dst (N := 13) rfl ?_); (try (refine gate_guard (by rfl) ?_; dsimp only)); refine box_event ?hg (N := 13) ?hd (cs := #[.string (⟨#[]⟩ : ByteArray), .string (⟨#[]⟩ : ByteArray), .int .i64 0]) (t := 42) ?hr ?_; (case hd => rfl); (case hg => rfl); (case hr => first | (go_simp; done) | (go_simp; rfl)); intro gb159 hg w51 hbox hb; have n0_ := Aside0.mk (Kd.R_below (Kd.R_elderB (by (with_reducible repeat (first | apply Kd.R_alloc | apply Kd.R_drewN | apply Kd.R_drew)); exact HO_131003.out) gb159 (Nat.le_of_eq hg.symm)) hb); have n1_ := Aside0.mk (blk_below (g := gb130) (o := .cells #[.int .u64 x131000_3, .int .u64 x131001_3, .string x131002_3, u131003] 26 (0, 0)) (by (with_reducible repeat (first | refine blk_drewN ?_ _ | refine blk_drew ?_ | refine blk_alloc ?_ _)); exact BK130.out) hb); have n2_ := Aside0.mk (blk_below (g := gb154) (o := .cells #[.string ((rd_T36 y149 x88_3).f0), .string ((rd_T36 y149 x88_3).f1)] 36 (0, 0)) (by (with_reducible repeat (first | refine blk_drewN ?_ _ | refine blk_drew ?_ | refine blk_alloc ?_ _)); exact BK154.out) hb); have n3_ := Aside0.mk (below_step (by repeat (first | (with_reducible first | exact HB.out | apply below_alloc | apply pw_below_drewN | apply below_drew1 | refine below_set ?_ GE130.out | refine below_set ?_ GE154.out) | exact HB.out)) hb); have n4_ := Aside0.mk (hbox); have n5_ := Aside0.mk ((by rw [hg]; exact (below_size (by repeat (first | (with_reducible first | exact HB.out | apply below_alloc | apply pw_below_drewN | apply below_drew1 | refine below_set ?_ GE130.out | refine below_set ?_ GE154.out) | exact HB.out))) : w.heap.size ≤ gb159)); have n6_ := Aside0.mk ((by rw [hg]; exact (below_size (by repeat (first | (with_reducible first | exact HB.out | apply below_alloc | apply pw_below_drewN | apply below_drew1 | refine below_set ?_ GE130.out | refine below_set ?_ GE154.out) | exact HB.out))) : w.heap.size ≤ gb159)); have n7_ := Aside0.mk ((by rw [hg]; exact Nat.ne_of_lt (blk_lt (g := gb130) (o := .cells #[.int .u64 x131000_3, .int .u64 x131001_3, .string x131002_3, u131003] 26 (0, 0)) (by (with_reducible repeat (first | refine blk_drewN ?_ _ | refine blk_drew ?_ | refine blk_alloc ?_ _)); exact BK130.out)) : gb130 ≠ gb159)); have n8_ := Aside0.mk ((by rw [hg]; exact Nat.ne_of_gt (blk_lt (g := gb130) (o := .cells #[.int .u64 x131000_3, .int .u64 x131001_3, .string x131002_3, u131003] 26 (0, 0)) (by (with_reducible repeat (first | refine blk_drewN ?_ _ | refine blk_drew ?_ | refine blk_alloc ?_ _)); exact BK130.out)) : gb159 ≠ gb130)); have n9_ := Aside0.mk ((by rw [hg]; exact Nat.ne_of_lt (blk_lt (g := gb154) (o := .cells #[.string ((rd_T36 y149 x88_3).f0), .string ((rd_T36 y149 x88_3).f1)] 36 (0, 0)) (by (with_reducible repeat (first | refine blk_drewN ?_ _ | refine blk_drew ?_ | refine blk_alloc ?_ _)); exact BK154.out)) : gb154 ≠ gb159)); have n10_ := Aside0.mk ((by rw [hg]; exact Nat.ne_of_gt (blk_lt (g := gb154) (o := .cells #[.string ((rd_T36 y149 x88_3).f0), .string ((rd_T36 y149 x88_3).f1)] 36 (0, 0)) (by (with_reducible repeat (first | refine blk_drewN ?_ _ | refine blk_drew ?_ | refine blk_alloc ?_ _)); exact BK154.out)) : gb159 ≠ gb154)); clear HO_131003; clear BK130; clear BK154; clear HB; have HO_131003 := n0_; have BK130 := n1_; have BK154 := n2_; have HB := n3_; have BK159 := n4_; have GW159 := n5_; have GE159 := n6_; have NB130_159 := n7_; have NB159_130 := n8_; have NB154_159 := n9_; have NB159_154 := n10_; clear n0_ n1_ n2_ n3_ n4_ n5_ n6_ n7_ n8_ n9_ n10_; clear hb hbox hg; have hnb52 := NB159_130.out; have hnc52 := NB130_159.out; have hnb53 := NB159_154.out; have hnc53 := NB154_159.out; have hcz54_0 : w51.cell? ⟨gb159, 0, none⟩ = some (.string (⟨#[]⟩ : ByteArray)) := (blk_cell BK159.out 0).trans rfl; have hcz54_1 : w51.cell? ⟨gb159, 1, none⟩ = some (.string (⟨#[]⟩ : ByteArray)) := (blk_cell BK159.out 1).trans rfl; have hcz54_2 : w51.cell? ⟨gb159, 2, none⟩ = some (.int .i64 0) := (blk_cell BK159.out 2).trans rfl; have hfz54_0 := blk_frozen BK159.out 0; have hfz54_1 := blk_frozen BK159.out 1; have hfz54_2 := blk_frozen BK159.out 2; have hcz55_0 : w51.cell? ⟨gb130, 0, none⟩ = some (.int .u64 x131000_3) := (blk_cell BK130.out 0).trans rfl; have hcz55_1 : w51.cell? ⟨gb130, 1, none⟩ = some (.int .u64 x131001_3) := (blk_cell BK130.out 1).trans rfl; have hcz55_2 : w51.cell? ⟨gb130, 2, none⟩ = some (.string x131002_3) := (blk_cell BK130.out 2).trans rfl; have hcz55_3 : w51.cell? ⟨gb130, 3, none⟩ = some (u131003) := (blk_cell BK130.out 3).trans rfl; have hfz55_0 := blk_frozen BK130.out 0; have hfz55_1 := blk_frozen BK130.out 1; have hfz55_2 := blk_frozen BK130.out 2; have hfz55_3 := blk_frozen BK130.out 3) | ((with_reducible refine gate_builtin (b := .append) (xs := #[.tmp 101, .tmp 103]) rfl ?_); (try (refine gate_guard (by rfl) ?_; dsimp only)); at_builtin; refine Kd.R_append k42 (w0 := w) w.heap.size rfl (.tmp 101) (.tmp 103) 24 42 (.agg #[(.string ⟨#[]⟩), (.string ⟨#[]⟩), (.int .i64 0)]) 40 rfl Tryd.underlying24 info42 rfl (by decide) (by omega) u131003 x131003_3 (⟨t155, t156, t157⟩ : S42) [.string t155, .string t156, .int .i64 t157] (fun k_ => k_ ≠ gb159) (fun _ => False) rfl (by first | (go_simp; done) | (go_simp; rfl)) ?aP (fun _ hk => hk.elim) ?aF ?aO ?aB ?aS ?aL ?_; (case aP => exact k42_mkM _ _ _ (⟨t155, t156, t157⟩ : S42)); (case aB => exact (by repeat (first | (with_reducible first | exact HB.out | apply below_alloc | apply pw_below_drewN | apply below_drew1 | refine below_set ?_ GE130.out | refine below_set ?_ GE154.out | refine below_set ?_ GE159.out) | exact HB.out))); (case aF => exact (fun k_ hk => Kd.freshB (g := gb159) (o := .cells #[.string t155, .string t156, .int .i64 t157] 42 (0, 0)) (by (with_reducible repeat (first | refine blk_drewN ?_ _ | refine blk_drew ?_ | refine blk_alloc ?_ _)); refine blk_put (cs := #[.string t155, .string t156, .int .i64 0]) ?_ 2 _ rfl; (with_reducible repeat (first | refine blk_drewN ?_ _ | refine blk_drew ?_ | refine blk_alloc ?_ _)); refine blk_put (cs := #[.string t155, .string (⟨#[]⟩ : ByteArray), .int .i64 0]) ?_ 1 _ rfl; (with_reducible repeat (first | refine blk_drewN ?_ _ | refine blk_drew ?_ | refine blk_alloc ?_ _)); refine blk_put (cs := #[.string (⟨#[]⟩ : ByteArray), .string (⟨#[]⟩ : ByteArray), .int .i64 0]) ?_ 0 _ rfl; (with_reducible repeat (first | refine blk_drewN ?_ _ | refine blk_drew ?_ | refine blk_alloc ?_ _)); exact BK159.out) k_ hk)); (case aO => exact (by (with_reducible repeat (first | apply Kd.R_alloc | apply Kd.R_drewN | apply Kd.R_drew)); exact Kd.R_mono (Kd.R_far (p := ⟨gb159, 2, none⟩) (Kd.R_far (p := ⟨gb159, 1, none⟩) (Kd.R_far (p := ⟨gb159, 0, none⟩) (Kd.R_mono HO_131003.out (fun k_ hk => (⟨hk, hk.2⟩ : _ ∧ k_ ≠ gb159))) (fun _ hk => hk.2) (.string t155)) (fun _ hk => hk.2) (.string t156)) (fun _ hk => hk.2) (.int .i64 t157)) (fun _ hk => hk.1.2))); (case aS => exact (below_size (by repeat (first | (with_reducible first | exact HB.out | apply below_alloc | apply pw_below_drewN | apply below_drew1 | refine below_set ?_ GE130.out | refine below_set ?_ GE154.out | refine below_set ?_ GE159.out) | exact HB.out)))); (case aL => have := LMc46.out; omega); intro v161 w56 ho hb hg hat; rw [← Ny160.out] at ho; have n0_ := Aside0.mk (blk_grown (g := gb130) (o := .cells #[.int .u64 x131000_3, .int .u64 x131001_3, .string x131002_3, u131003] 26 (0, 0)) (by (with_reducible repeat (first | refine blk_drewN ?_ _ | refine blk_drew ?_ | refine blk_alloc ?_ _)); refine blk_far ?_ NB130_159.out _; (with_reducible repeat (first | refine blk_drewN ?_ _ | refine blk_drew ?_ | refine blk_alloc ?_ _)); refine blk_far ?_ NB130_159.out _; (with_reducible repeat (first | refine blk_drewN ?_ _ | refine blk_drew ?_ | refine blk_alloc ?_ _)); refine blk_far ?_ NB130_159.out _; (with_reducible repeat (first | refine blk_drewN ?_ _ | refine blk_drew ?_ | refine blk_alloc ?_ _)); exact BK130.out) hg (Kd.R_ne HO_131003.out BK130.out (by decide))); have n1_ := Aside0.mk (blk_grown (g := gb154) (o := .cells #[.string ((rd_T36 y149 x88_3).f0), .string ((rd_T36 y149 x88_3).f1)] 36 (0, 0)) (by (with_reducible repeat (first | refine blk_drewN ?_ _ | refine blk_drew ?_ | refine blk_alloc ?_ _)); refine blk_far ?_ NB154_159.out _; (with_reducible repeat (first | refine blk_drewN ?_ _ | refine blk_drew ?_ | refine blk_alloc ?_ _)); refine blk_far ?_ NB154_159.out _; (with_reducible repeat (first | refine blk_drewN ?_ _ | refine blk_drew ?_ | refine blk_alloc ?_ _)); refine blk_far ?_ NB154_159.out _; (with_reducible repeat (first | refine blk_drewN ?_ _ | refine blk_drew ?_ | refine blk_alloc ?_ _)); exact BK154.out) hg (Kd.R_ne HO_131003.out BK154.out (by decide))); have n2_ := Aside0.mk (blk_grown (g := gb159) (o := .cells #[.string t155, .string t156, .int .i64 t157] 42 (0, 0)) (by (with_reducible repeat (first | refine blk_drewN ?_ _ | refine blk_drew ?_ | refine blk_alloc ?_ _)); refine blk_put (cs := #[.string t155, .string t156, .int .i64 0]) ?_ 2 _ rfl; (with_reducible repeat (first | refine blk_drewN ?_ _ | refine blk_drew ?_ | refine blk_alloc ?_ _)); refine blk_put (cs := #[.string t155, .string (⟨#[]⟩ : ByteArray), .int .i64 0]) ?_ 1 _ rfl; (with_reducible repeat (first | refine blk_drewN ?_ _ | refine blk_drew ?_ | refine blk_alloc ?_ _)); refine blk_put (cs := #[.string (⟨#[]⟩ : ByteArray), .string (⟨#[]⟩ : ByteArray), .int .i64 0]) ?_ 0 _ rfl; (with_reducible repeat (first | refine blk_drewN ?_ _ | refine blk_drew ?_ | refine blk_alloc ?_ _)); exact BK159.out) hg (Kd.R_away HO_131003.out (fun _ hk => hk.2))); have n3_ := Aside0.mk (hb); have n4_ := Aside0.mk (ho); clear BK130; clear BK154; clear BK159; clear HB; clear HO_131003; have BK130 := n0_; have BK154 := n1_; have BK159 := n2_; have HB := n3_; have HO162 := n4_; clear n0_ n1_ n2_ n3_ n4_; clear ho hb hg hat; obtain ⟨Ao57, co57, eo57⟩ := Kd.R_slice HO162.out; subst eo57; have hcz58_0 : w56.cell? ⟨gb130, 0, none⟩ = some (.int .u64 x131000_3) := (blk_cell BK130.out 0).trans rfl; have hcz58_1 : w56.cell? ⟨gb130, 1, none⟩ = some (.int .u64 x131001_3) := (blk_cell BK130.out 1).trans rfl; have hcz58_2 : w56.cell? ⟨gb130, 2, none⟩ = some (.string x131002_3) := (blk_cell BK130.out 2).trans rfl; have hcz58_3 : w56.cell? ⟨gb130, 3, none⟩ = some (u131003) := (blk_cell BK130.out 3).trans rfl; have hfz58_0 := blk_frozen BK130.out 0; have hfz58_1 := blk_frozen BK130.out 1; have hfz58_2 := blk_frozen BK130.out 2; have hfz58_3 := blk_frozen BK130.out 3))
                     go_roundg k3
                     case measure => have := HJ4.out; have := HJ22.out; have := HK3.out; omega
                     case rel => exact ⟨(wrap64 (x88_3 + 1)), (x131000_3), (x131001_3), (x131002_3), (y160), (.slice Ao57 y160.length co57), (by first | rfl | (simp; done) | (simp [*]; done)), H', ⟨by have := HJ4.out; have := HJ22.out; have := HK3.out; omega⟩, ⟨by (with_reducible repeat (first | apply Kd.R_alloc | apply Kd.R_drewN | apply Kd.R_drew)); exact Kd.R_mono (Kd.R_far (p := ⟨gb130, 3, none⟩) (Kd.R_types HO162.out BK130.out (by decide)) (fun _ hk => hk.2) (.slice Ao57 y160.length co57)) (fun _ hk => trivial)⟩, ⟨by (with_reducible repeat (first | refine blk_drewN ?_ _ | refine blk_drew ?_ | refine blk_alloc ?_ _)); refine blk_put (cs := #[.int .u64 x131000_3, .int .u64 x131001_3, .string x131002_3, u131003]) ?_ 3 _ rfl; (with_reducible repeat (first | refine blk_drewN ?_ _ | refine blk_drew ?_ | refine blk_alloc ?_ _)); exact BK130.out⟩, ⟨by repeat (first | (with_reducible first | exact HB.out | apply below_alloc | apply pw_below_drewN | apply below_drew1 | refine below_set ?_ GE130.out | refine below_set ?_ GE154.out | refine below_set ?_ GE159.out) | exact HB.out)⟩⟩
                    ·rw [if_neg c46] at H
                     exact absurd H (by simp)
                   ·replace c45 := Bool.eq_false_iff.mpr c45
                    subst c45
                    have H1 : (some (x131000_3, x131001_3, x131002_3, x131003_3, 0, false)) = some (r1, r2, r3, r4, r5, r6) := by rw [if_neg (show ¬ (false = true) by decide)] at H; exact H
                    clear H
                    have H := H1
                    clear H1
                    simp only [Option.some.injEq, Prod.mk.injEq] at H
                    obtain ⟨rfl, rfl, rfl, rfl, rfl, rfl⟩ := H
                    have p153 : 0 ≤ (x88_3 : Int) := of_decide_eq_true (by first | (with_reducible assumption) | assumption)
                    have q153 : x88_3 < (y149.length : Int) := of_decide_eq_true (by first | (with_reducible assumption) | assumption)
                    obtain ⟨ad153, e153, hx153_0, hx153_1⟩ := at_T36 HR152.out x88_3 p153 q153
                    cases e153
                    replace hx153_0 := (HB.out.cell (World.block_lt_of_cell? w _ hx153_0)).trans hx153_0
                    replace hx153_1 := (HB.out.cell (World.block_lt_of_cell? w _ hx153_1)).trans hx153_1
                    replace p153 := eq_true p153
                    replace q153 := eq_true q153
                    go_wp2_with (first | ((with_reducible refine gate_dst (N := 12) rfl ?_); (try (refine gate_guard (by rfl) ?_; dsimp only)); refine box_event ?hg (N := 12) ?hd (cs := #[.string (⟨#[]⟩ : ByteArray), .string (⟨#[]⟩ : ByteArray)]) (t := 36) ?hr ?_; (case hd => rfl); (case hg => rfl); (case hr => first | (go_simp; done) | (go_simp; rfl)); intro gb154 hg w59 hbox hb; have n0_ := Aside0.mk (Kd.R_below (by (with_reducible repeat (first | apply Kd.R_alloc | apply Kd.R_drewN | apply Kd.R_drew)); exact HO_131003.out) hb); have n1_ := Aside0.mk (blk_below (g := gb130) (o := .cells #[.int .u64 x131000_3, .int .u64 x131001_3, .string x131002_3, u131003] 26 (0, 0)) (by (with_reducible repeat (first | refine blk_drewN ?_ _ | refine blk_drew ?_ | refine blk_alloc ?_ _)); exact BK130.out) hb); have n2_ := Aside0.mk (below_step (by repeat (first | (with_reducible first | exact HB.out | apply below_alloc | apply pw_below_drewN | apply below_drew1 | refine below_set ?_ GE130.out) | exact HB.out)) hb); have n3_ := Aside0.mk (hbox); have n4_ := Aside0.mk ((by rw [hg]; exact (below_size (by repeat (first | (with_reducible first | exact HB.out | apply below_alloc | apply pw_below_drewN | apply below_drew1 | refine below_set ?_ GE130.out) | exact HB.out))) : w.heap.size ≤ gb154)); have n5_ := Aside0.mk ((by rw [hg]; exact (below_size (by repeat (first | (with_reducible first | exact HB.out | apply below_alloc | apply pw_below_drewN | apply below_drew1 | refine below_set ?_ GE130.out) | exact HB.out))) : w.heap.size ≤ gb154)); have n6_ := Aside0.mk ((by rw [hg]; exact Nat.ne_of_lt (blk_lt (g := gb130) (o := .cells #[.int .u64 x131000_3, .int .u64 x131001_3, .string x131002_3, u131003] 26 (0, 0)) (by (with_reducible repeat (first | refine blk_drewN ?_ _ | refine blk_drew ?_ | refine blk_alloc ?_ _)); exact BK130.out)) : gb130 ≠ gb154)); have n7_ := Aside0.mk ((by rw [hg]; exact Nat.ne_of_gt (blk_lt (g := gb130) (o := .cells #[.int .u64 x131000_3, .int .u64 x131001_3, .string x131002_3, u131003] 26 (0, 0)) (by (with_reducible repeat (first | refine blk_drewN ?_ _ | refine blk_drew ?_ | refine blk_alloc ?_ _)); exact BK130.out)) : gb154 ≠ gb130)); clear HO_131003; clear BK130; clear HB; have HO_131003 := n0_; have BK130 := n1_; have HB := n2_; have BK154 := n3_; have GW154 := n4_; have GE154 := n5_; have NB130_154 := n6_; have NB154_130 := n7_; clear n0_ n1_ n2_ n3_ n4_ n5_ n6_ n7_; clear hb hbox hg; have hnb60 := NB154_130.out; have hnc60 := NB130_154.out; have hcz61_0 : w59.cell? ⟨gb154, 0, none⟩ = some (.string (⟨#[]⟩ : ByteArray)) := (blk_cell BK154.out 0).trans rfl; have hcz61_1 : w59.cell? ⟨gb154, 1, none⟩ = some (.string (⟨#[]⟩ : ByteArray)) := (blk_cell BK154.out 1).trans rfl; have hfz61_0 := blk_frozen BK154.out 0; have hfz61_1 := blk_frozen BK154.out 1) | ((with_reducible refine gate_callee (f := 48) rfl ?_); refine goesL_ (some 94) rfl rfl Tryd.func48 (by kernel_rfl) rfl #[.agg #[.string ((rd_T36 y149 x88_3).f0), .string ((rd_T36 y149 x88_3).f1)]] rfl (by (try simp only [List.map_toArray, List.map_cons, List.map_nil]); first | done | rfl | (simp only [List.length_drop, List.length_take]; rfl)) ?_; (with_reducible refine (journal_leg.calls ((rd_T36 y149 x88_3).f0) ((rd_T36 y149 x88_3).f1) t155 t156 t157 false _ ?side1 A44.out).mono ?_); (case side1 => exact Glob.below HG.out (by repeat (first | (with_reducible first | exact HB.out | apply below_alloc | apply pw_below_drewN | apply below_drew1 | refine below_set ?_ GE130.out | refine below_set ?_ GE154.out) | exact HB.out))); rintro e w62 ⟨rfl, hb⟩; refine ⟨_, rfl, ?_⟩; have n0_ := Aside0.mk (Kd.R_below (by (with_reducible repeat (first | apply Kd.R_alloc | apply Kd.R_drewN | apply Kd.R_drew)); exact (Kd.R_mono (Kd.R_far (p := ⟨gb154, 1, none⟩) (Kd.R_far (p := ⟨gb154, 0, none⟩) (Kd.R_types HO_131003.out BK154.out (by decide)) (fun _ hk => hk.2) (.string ((rd_T36 y149 x88_3).f0))) (fun _ hk => hk.2) (.string ((rd_T36 y149 x88_3).f1))) (fun _ h_ => h_.1))) hb); have n1_ := Aside0.mk (blk_below (g := gb130) (o := .cells #[.int .u64 x131000_3, .int .u64 x131001_3, .string x131002_3, u131003] 26 (0, 0)) (by (with_reducible repeat (first | refine blk_drewN ?_ _ | refine blk_drew ?_ | refine blk_alloc ?_ _)); refine blk_far ?_ NB130_154.out _; (with_reducible repeat (first | refine blk_drewN ?_ _ | refine blk_drew ?_ | refine blk_alloc ?_ _)); refine blk_far ?_ NB130_154.out _; (with_reducible repeat (first | refine blk_drewN ?_ _ | refine blk_drew ?_ | refine blk_alloc ?_ _)); exact BK130.out) hb); have n2_ := Aside0.mk (blk_below (g := gb154) (o := .cells #[.string ((rd_T36 y149 x88_3).f0), .string ((rd_T36 y149 x88_3).f1)] 36 (0, 0)) (by (with_reducible repeat (first | refine blk_drewN ?_ _ | refine blk_drew ?_ | refine blk_alloc ?_ _)); refine blk_put (cs := #[.string ((rd_T36 y149 x88_3).f0), .string (⟨#[]⟩ : ByteArray)]) ?_ 1 _ rfl; (with_reducible repeat (first | refine blk_drewN ?_ _ | refine blk_drew ?_ | refine blk_alloc ?_ _)); refine blk_put (cs := #[.string (⟨#[]⟩ : ByteArray), .string (⟨#[]⟩ : ByteArray)]) ?_ 0 _ rfl; (with_reducible repeat (first | refine blk_drewN ?_ _ | refine blk_drew ?_ | refine blk_alloc ?_ _)); exact BK154.out) hb); have n3_ := Aside0.mk (below_step (by repeat (first | (with_reducible first | exact HB.out | apply below_alloc | apply pw_below_drewN | apply below_drew1 | refine below_set ?_ GE130.out | refine below_set ?_ GE154.out) | exact HB.out)) hb); clear HO_131003; clear BK130; clear BK154; clear HB; have HO_131003 := n0_; have BK130 := n1_; have BK154 := n2_; have HB := n3_; clear n0_ n1_ n2_ n3_; (try clear hb); (try clear hb2); (try clear hk); (try clear hi)) | ((with_reducible refine gate_dst (N := 13) rfl ?_); (try (refine gate_guard (by rfl) ?_; dsimp only)); refine box_event ?hg (N := 13) ?hd (cs := #[.string (⟨#[]⟩ : ByteArray), .string (⟨#[]⟩ : ByteArray), .int .i64 0]) (t := 42) ?hr ?_; (case hd => rfl); (case hg => rfl); (case hr => first | (go_simp; done) | (go_simp; rfl)); intro gb159 hg w63 hbox hb; have n0_ := Aside0.mk (Kd.R_below (Kd.R_elderB (by (with_reducible repeat (first | apply Kd.R_alloc | apply Kd.R_drewN | apply Kd.R_drew)); exact HO_131003.out) gb159 (Nat.le_of_eq hg.symm)) hb); have n1_ := Aside0.mk (blk_below (g := gb130) (o := .cells #[.int .u64 x131000_3, .int .u64 x131001_3, .string x131002_3, u131003] 26 (0, 0)) (by (with_reducible repeat (first | refine blk_drewN ?_ _ | refine blk_drew ?_ | refine blk_alloc ?_ _)); exact BK130.out) hb); have n2_ := Aside0.mk (blk_below (g := gb154) (o := .cells #[.string ((rd_T36 y149 x88_3).f0), .string ((rd_T36 y149 x88_3).f1)] 36 (0, 0)) (by (with_reducible repeat (first | refine blk_drewN ?_ _ | refine blk_drew ?_ | refine blk_alloc ?_ _)); exact BK154.out) hb); have n3_ := Aside0.mk (below_step (by repeat (first | (with_reducible first | exact HB.out | apply below_alloc | apply pw_below_drewN | apply below_drew1 | refine below_set ?_ GE130.out | refine below_set ?_ GE154.out) | exact HB.out)) hb); have n4_ := Aside0.mk (hbox); have n5_ := Aside0.mk ((by rw [hg]; exact (below_size (by repeat (first | (with_reducible first | exact HB.out | apply below_alloc | apply pw_below_drewN | apply below_drew1 | refine below_set ?_ GE130.out | refine below_set ?_ GE154.out) | exact HB.out))) : w.heap.size ≤ gb159)); have n6_ := Aside0.mk ((by rw [hg]; exact (below_size (by repeat (first | (with_reducible first | exact HB.out | apply below_alloc | apply pw_below_drewN | apply below_drew1 | refine below_set ?_ GE130.out | refine below_set ?_ GE154.out) | exact HB.out))) : w.heap.size ≤ gb159)); have n7_ := Aside0.mk ((by rw [hg]; exact Nat.ne_of_lt (blk_lt (g := gb130) (o := .cells #[.int .u64 x131000_3, .int .u64 x131001_3, .string x131002_3, u131003] 26 (0, 0)) (by (with_reducible repeat (first | refine blk_drewN ?_ _ | refine blk_drew ?_ | refine blk_alloc ?_ _)); exact BK130.out)) : gb130 ≠ gb159)); have n8_ := Aside0.mk ((by rw [hg]; exact Nat.ne_of_gt (blk_lt (g := gb130) (o := .cells #[.int .u64 x131000_3, .int .u64 x131001_3, .string x131002_3, u131003] 26 (0, 0)) (by (with_reducible repeat (first | refine blk_drewN ?_ _ | refine blk_drew ?_ | refine blk_alloc ?_ _)); exact BK130.out)) : gb159 ≠ gb130)); have n9_ := Aside0.mk ((by rw [hg]; exact Nat.ne_of_lt (blk_lt (g := gb154) (o := .cells #[.string ((rd_T36 y149 x88_3).f0), .string ((rd_T36 y149 x88_3).f1)] 36 (0, 0)) (by (with_reducible repeat (first | refine blk_drewN ?_ _ | refine blk_drew ?_ | refine blk_alloc ?_ _)); exact BK154.out)) : gb154 ≠ gb159)); have n10_ := Aside0.mk ((by rw [hg]; exact Nat.ne_of_gt (blk_lt (g := gb154) (o := .cells #[.string ((rd_T36 y149 x88_3).f0), .string ((rd_T36 y149 x88_3).f1)] 36 (0, 0)) (by (with_reducible repeat (first | refine blk_drewN ?_ _ | refine blk_drew ?_ | refine blk_alloc ?_ _)); exact BK154.out)) : gb159 ≠ gb154)); clear HO_131003; clear BK130; clear BK154; clear HB; have HO_131003 := n0_; have BK130 := n1_; have BK154 := n2_; have HB := n3_; have BK159 := n4_; have GW159 := n5_; have GE159 := n6_; have NB130_159 := n7_; have NB159_130 := n8_; have NB154_159 := n9_; have NB159_154 := n10_; clear n0_ n1_ n2_ n3_ n4_ n5_ n6_ n7_ n8_ n9_ n10_; clear hb hbox hg; have hnb64 := NB159_130.out; have hnc64 := NB130_159.out; have hnb65 := NB159_154.out; have hnc65 := NB154_159.out; have hcz66_0 : w63.cell? ⟨gb159, 0, none⟩ = some (.string (⟨#[]⟩ : ByteArray)) := (blk_cell BK159.out 0).trans rfl; have hcz66_1 : w63.cell? ⟨gb159, 1, none⟩ = some (.string (⟨#[]⟩ : ByteArray)) := (blk_cell BK159.out 1).trans rfl; have hcz66_2 : w63.cell? ⟨gb159, 2, none⟩ = some (.int .i64 0) := (blk_cell BK159.out 2).trans rfl; have hfz66_0 := blk_frozen BK159.out 0; have hfz66_1 := blk_frozen BK159.out 1; have hfz66_2 := blk_frozen BK159.out 2; have hcz67_0 : w63.cell? ⟨gb130, 0, none⟩ = some (.int .u64 x131000_3) := (blk_cell BK130.out 0).trans rfl; have hcz67_1 : w63.cell? ⟨gb130, 1, none⟩ = some (.int .u64 x131001_3) := (blk_cell BK130.out 1).trans rfl; have hcz67_2 : w63.cell? ⟨gb130, 2, none⟩ = some (.string x131002_3) := (blk_cell BK130.out 2).trans rfl; have hcz67_3 : w63.cell? ⟨gb130, 3, none⟩ = some (u131003) := (blk_cell BK130.out 3).trans rfl; have hfz67_0 := blk_frozen BK130.out 0; have hfz67_1 := blk_frozen BK130.out 1; have hfz67_2 := blk_frozen BK130.out 2; have hfz67_3 := blk_frozen BK130.out 3; obtain ⟨Ao68, co68, eo68⟩ := Kd.R_slice HO_131003.out; subst eo68))
                    refine bodyPost_ret (results_ctt rfl _ _ gb130 26 #[.int .u64 x131000_3, .int .u64 x131001_3, .string x131002_3, .slice Ao68 x131003_3.length co68] (0, 0) _ rfl (by (with_reducible repeat (first | refine blk_drewN ?_ _ | refine blk_drew ?_ | refine blk_alloc ?_ _)); refine blk_put (cs := #[.int .u64 x131000_3, .int .u64 x131001_3, .string x131002_3, .slice Ao68 x131003_3.length co68]) ?_ 3 _ rfl; (with_reducible repeat (first | refine blk_drewN ?_ _ | refine blk_drew ?_ | refine blk_alloc ?_ _)); refine blk_put (cs := #[.int .u64 x131000_3, .int .u64 x131001_3, .string x131002_3, .slice Ao68 x131003_3.length co68]) ?_ 2 _ rfl; (with_reducible repeat (first | refine blk_drewN ?_ _ | refine blk_drew ?_ | refine blk_alloc ?_ _)); refine blk_put (cs := #[.int .u64 x131000_3, .int .u64 x131001_3, .string x131002_3, .slice Ao68 x131003_3.length co68]) ?_ 1 _ rfl; (with_reducible repeat (first | refine blk_drewN ?_ _ | refine blk_drew ?_ | refine blk_alloc ?_ _)); refine blk_put (cs := #[.int .u64 x131000_3, .int .u64 x131001_3, .string x131002_3, .slice Ao68 x131003_3.length co68]) ?_ 0 _ rfl; (with_reducible repeat (first | refine blk_drewN ?_ _ | refine blk_drew ?_ | refine blk_alloc ?_ _)); refine blk_far ?_ NB130_159.out _; (with_reducible repeat (first | refine blk_drewN ?_ _ | refine blk_drew ?_ | refine blk_alloc ?_ _)); refine blk_far ?_ NB130_159.out _; (with_reducible repeat (first | refine blk_drewN ?_ _ | refine blk_drew ?_ | refine blk_alloc ?_ _)); refine blk_far ?_ NB130_159.out _; (with_reducible repeat (first | refine blk_drewN ?_ _ | refine blk_drew ?_ | refine blk_alloc ?_ _)); exact BK130.out) Tryd.underlying26 rfl (by kernel_rfl)) rfl ?_
                    exact ⟨_, by first | rfl | (simp [errW_none, errW_some] <;> rfl) | (simp [*, errW_none, errW_some] <;> rfl), by (with_reducible repeat (first | apply Kd.R_alloc | apply Kd.R_drewN | apply Kd.R_drew)); exact Kd.R_mono (Kd.R_far (p := ⟨gb130, 3, none⟩) (Kd.R_far (p := ⟨gb130, 2, none⟩) (Kd.R_far (p := ⟨gb130, 1, none⟩) (Kd.R_far (p := ⟨gb130, 0, none⟩) (Kd.R_far (p := ⟨gb159, 2, none⟩) (Kd.R_far (p := ⟨gb159, 1, none⟩) (Kd.R_far (p := ⟨gb159, 0, none⟩) (Kd.R_types (Kd.R_mono HO_131003.out (fun k_ hk => (⟨hk, hk.2⟩ : _ ∧ k_ ≠ gb159))) BK130.out (by decide)) (fun _ hk => hk.1.2) (.string t155)) (fun _ hk => hk.1.2) (.string t156)) (fun _ hk => hk.1.2) (.int .i64 t157)) (fun _ hk => hk.2) (.int .u64 x131000_3)) (fun _ hk => hk.2) (.int .u64 x131001_3)) (fun _ hk => hk.2) (.string x131002_3)) (fun _ hk => hk.2) (.slice Ao68 x131003_3.length co68)) (fun _ hk => trivial), by repeat (first | (with_reducible first | exact HB.out | apply below_alloc | apply pw_below_drewN | apply below_drew1 | refine below_set ?_ GE130.out | refine below_set ?_ GE154.out | refine below_set ?_ GE159.out) | exact HB.out)⟩
                  ·rw [if_neg c43] at H
                   exact absurd H (by simp)
                 ·rw [if_neg c42] at H
                  exact absurd H (by simp)
                ·rw [if_neg c41] at H
                 have c41b0 : decide (x88_3 < (y149.length : Int)) = false := decide_eq_false c41
                 clear c41
                 simp only [Option.some.injEq, Prod.mk.injEq] at H
                 obtain ⟨rfl, rfl, rfl, rfl, rfl, rfl⟩ := H
                 have hcz69_0 : wr.cell? ⟨gb130, 0, none⟩ = some (.int .u64 x131000_3) := (blk_cell BK130.out 0).trans rfl
                 have hcz69_1 : wr.cell? ⟨gb130, 1, none⟩ = some (.int .u64 x131001_3) := (blk_cell BK130.out 1).trans rfl
                 have hcz69_2 : wr.cell? ⟨gb130, 2, none⟩ = some (.string x131002_3) := (blk_cell BK130.out 2).trans rfl
                 have hcz69_3 : wr.cell? ⟨gb130, 3, none⟩ = some (u131003) := (blk_cell BK130.out 3).trans rfl
                 have hfz69_0 := blk_frozen BK130.out 0
                 have hfz69_1 := blk_frozen BK130.out 1
                 have hfz69_2 := blk_frozen BK130.out 2
                 have hfz69_3 := blk_frozen BK130.out 3
                 obtain ⟨Ao70, co70, eo70⟩ := Kd.R_slice HO_131003.out
                 subst eo70
                 go_wp2
                 refine bodyPost_ret (results_ctt rfl _ _ gb130 26 #[.int .u64 x131000_3, .int .u64 x131001_3, .string x131002_3, .slice Ao70 x131003_3.length co70] (0, 0) _ rfl (by (with_reducible repeat (first | refine blk_drewN ?_ _ | refine blk_drew ?_ | refine blk_alloc ?_ _)); refine blk_put (cs := #[.int .u64 x131000_3, .int .u64 x131001_3, .string x131002_3, .slice Ao70 x131003_3.length co70]) ?_ 3 _ rfl; (with_reducible repeat (first | refine blk_drewN ?_ _ | refine blk_drew ?_ | refine blk_alloc ?_ _)); refine blk_put (cs := #[.int .u64 x131000_3, .int .u64 x131001_3, .string x131002_3, .slice Ao70 x131003_3.length co70]) ?_ 2 _ rfl; (with_reducible repeat (first | refine blk_drewN ?_ _ | refine blk_drew ?_ | refine blk_alloc ?_ _)); refine blk_put (cs := #[.int .u64 x131000_3, .int .u64 x131001_3, .string x131002_3, .slice Ao70 x131003_3.length co70]) ?_ 1 _ rfl; (with_reducible repeat (first | refine blk_drewN ?_ _ | refine blk_drew ?_ | refine blk_alloc ?_ _)); refine blk_put (cs := #[.int .u64 x131000_3, .int .u64 x131001_3, .string x131002_3, .slice Ao70 x131003_3.length co70]) ?_ 0 _ rfl; (with_reducible repeat (first | refine blk_drewN ?_ _ | refine blk_drew ?_ | refine blk_alloc ?_ _)); exact BK130.out) Tryd.underlying26 rfl (by kernel_rfl)) rfl ?_
                 exact ⟨_, by first | rfl | (simp [errW_none, errW_some] <;> rfl) | (simp [*, errW_none, errW_some] <;> rfl), by (with_reducible repeat (first | apply Kd.R_alloc | apply Kd.R_drewN | apply Kd.R_drew)); exact Kd.R_mono (Kd.R_far (p := ⟨gb130, 3, none⟩) (Kd.R_far (p := ⟨gb130, 2, none⟩) (Kd.R_far (p := ⟨gb130, 1, none⟩) (Kd.R_far (p := ⟨gb130, 0, none⟩) (Kd.R_types HO_131003.out BK130.out (by decide)) (fun _ hk => hk.2) (.int .u64 x131000_3)) (fun _ hk => hk.2) (.int .u64 x131001_3)) (fun _ hk => hk.2) (.string x131002_3)) (fun _ hk => hk.2) (.slice Ao70 x131003_3.length co70)) (fun _ hk => trivial), by repeat (first | (with_reducible first | exact HB.out | apply below_alloc | apply pw_below_drewN | apply below_drew1 | refine below_set ?_ GE130.out) | exact HB.out)⟩
             ·rw [if_neg c39] at H
              exact absurd H (by simp)
            ·rw [if_neg c38] at H
             exact absurd H (by simp)
        ·rw [if_neg c21] at H
         exact absurd H (by simp)
       ·rw [if_neg c19] at H
        exact absurd H (by simp)
      ·rw [if_neg c17] at H
       exact absurd H (by simp)
     ·rw [if_neg c16] at H
      exact absurd H (by simp)
 ·rw [if_neg c2] at H
  exact absurd H (by simp)

end Go.Proofs.YtjlifcbddednaaaDoor.P
