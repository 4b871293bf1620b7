-- Laid by wip/tools/cprint.py of this claim's own repo (over the kit's print).
import Derived.Test.YtalepbkdakjhdaaDoorPx0
import Derived.Test.YtalepbkdakjhdaaDoorPx1
import Derived.Test.YtalepbkdakjhdaaDoorPx2
import Derived.Test.YtalepbkdakjhdaaDoorPx3
import Derived.Test.YtalepbkdakjhdaaDoorDigits
import Derived.Test.YtalepbkdakjhdaaDoorNumber
namespace Go.Proofs.YtalepbkdakjhdaaDoor.P
open Go.RowKit Go.Proofs.YtalepbkdakjhdaaDoor.E Go.Proofs.YtalepbkdakjhdaaDoorW.PrintWords Go.Proofs.YtalepbkdakjhdaaDoorW.PrintLast Go.Proofs.YtalepbkdakjhdaaDoorW.PrintMore
attribute [local go_sem] max2_int min2_int max_two min_two max_three min_three max_four min_four   -- for this text's walks alone
set_option linter.unusedVariables false
set_option linter.unusedSimpArgs false

/-! ### cambistref02_part: function 30 -/
def cambistref02_part.l0 : Nat → ByteArray → Int → Int → Option (Bool)
  | 0, _, _, _ => none
  | k + 1, x0, x1, x5 => if x5 < (x0.size : Int) then (if 0 ≤ x5 then ((cambistref02_within.f (bt x0 x5) 97 122).bind fun t178 => (if t178 = true then (cambistref02_part.l0 k x0 x1 (wrap64 (x5 + 1))) else ((cambistref02_within.f (bt x0 x5) 65 90).bind fun t179 => (if t179 = true then (cambistref02_part.l0 k x0 x1 (wrap64 (x5 + 1))) else ((cambistref02_within.f (bt x0 x5) 48 57).bind fun t180 => (if t180 = true then (cambistref02_part.l0 k x0 x1 (wrap64 (x5 + 1))) else (if ((bt x0 x5) = 45) then (cambistref02_part.l0 k x0 x1 (wrap64 (x5 + 1))) else (some false)))))))) else (none)) else (if (x0.size : Int) ≥ 1 then (some (decide ((x0.size : Int) ≤ x1))) else (some false))
def cambistref02_part.f (k : Nat) (a0 : ByteArray) (a1 : Int) : Option (Bool) := cambistref02_part.l0 k a0 a1 0
theorem cambistref02_part.mono_l : ∀ k, (∀ y0 y1 y2, LeO (cambistref02_part.l0 k y0 y1 y2) (cambistref02_part.l0 (k + 1) y0 y1 y2))
  | 0 => fun _ _ _ r h => by simp [cambistref02_part.l0] at h
  | k + 1 => by
    have ih0 := cambistref02_part.mono_l k
    · intro y0 y1 y2
      unfold cambistref02_part.l0
      repeat' first
      | (with_reducible exact ih0 _ _ _)
      | (with_reducible exact LeO.refl _)
      | (with_reducible exact LeO.none _)
      | (with_reducible refine LeO.ite ?_ ?_)
      | (with_reducible refine LeO.bind ?_ (fun _ => ?_))
      | exact ih0 _ _ _
      | exact LeO.none _
      | refine LeO.ite ?_ ?_
      | refine LeO.bind ?_ (fun _ => ?_)
theorem cambistref02_part.mono : ∀ a0 a1 k, LeO (cambistref02_part.f k a0 a1) (cambistref02_part.f (k + 1) a0 a1) := by
  intro a0 a1 k
  have ih0 := cambistref02_part.mono_l k
  unfold cambistref02_part.f
  repeat' first
      | (with_reducible exact ih0 _ _ _)
      | (with_reducible exact LeO.refl _)
      | (with_reducible exact LeO.none _)
      | (with_reducible refine LeO.ite ?_ ?_)
      | (with_reducible refine LeO.bind ?_ (fun _ => ?_))
      | exact ih0 _ _ _
      | exact LeO.none _
      | refine LeO.ite ?_ ?_
      | refine LeO.bind ?_ (fun _ => ?_)
set_option maxHeartbeats 8000000 in
set_option maxRecDepth 100000 in
theorem cambistref02_part.calls (k : Nat) (a0 : ByteArray) (a1 : Int) (r : Bool) (w : World) (hG : Glob w) (h : cambistref02_part.f k a0 a1 = some r) :
    Calls Tryd.prog 30 #[.string a0, .int .i64 a1] w fun e w' => e = .returned (.bool r) ∧ Drawn0 w w' := by
  have HG := Aside0.mk hG
  clear hG
  have H : (cambistref02_part.l0 k a0 a1 0) = some r := h
  clear h
  have H' := Aside0.mk H
  clear H
  go_enter Tryd.func30, Tryd.ntmps30
  go_wp2
  go_loopg [5] k (fun kq v5 w' => ∃ (x5_1 : Int), v5 = .int .i64 x5_1 ∧ Aside0 (cambistref02_part.l0 kq a0 a1 x5_1 = some r) ∧ Aside0 (kq ≤ k) ∧ Drawn0 w w')
  case atStart => exact ⟨(0), (by first | rfl | (simp; done) | (simp [*]; done)), H', ⟨Nat.le_refl _⟩, by repeat (first | exact Drawn0.refl _ | apply Drawn0.step)⟩
  case round =>
    clear H'
    try clear p2
    obtain ⟨x5_1, rfl, HA, HK1, ⟨m1, rfl⟩⟩ := hrel
    cases gk with
    | zero => exact absurd HA.out (by simp [cambistref02_part.l0])
    | succ k1 =>
      have H := HA.out
      clear HA
      simp only [cambistref02_part.l0] at H
      by_cases c3 : x5_1 < (a0.size : Int)
      · rw [if_pos c3] at H
        have c3b0 : decide (x5_1 < (a0.size : Int)) = true := decide_eq_true c3
        clear c3
        by_cases c4 : 0 ≤ x5_1
        · rw [if_pos c4] at H
          have c4b0 : decide (0 ≤ x5_1) = true := decide_eq_true c4
          clear c4
          replace H := Option.bind_eq_some_iff.mp H
          obtain ⟨t178, A60, H⟩ := H
          replace H : (if t178 = true then (cambistref02_part.l0 k1 a0 a1 (wrap64 (x5_1 + 1))) else ((cambistref02_within.f (bt a0 x5_1) 65 90).bind fun t179 => (if t179 = true then (cambistref02_part.l0 k1 a0 a1 (wrap64 (x5_1 + 1))) else ((cambistref02_within.f (bt a0 x5_1) 48 57).bind fun t180 => (if t180 = true then (cambistref02_part.l0 k1 a0 a1 (wrap64 (x5_1 + 1))) else (if ((bt a0 x5_1) = 45) then (cambistref02_part.l0 k1 a0 a1 (wrap64 (x5_1 + 1))) else (some false))))))) = some r := H
          have A6 := Aside0.mk A60
          clear A60
          by_cases c7 : t178 = true
          · subst c7
            have H1 : (cambistref02_part.l0 k1 a0 a1 (wrap64 (x5_1 + 1))) = some r := by rw [if_pos rfl] at H; exact H
            clear H
            have H := H1
            clear H1
            have H' := Aside0.mk H
            clear H
            have p5 : 0 ≤ (x5_1 : Int) := of_decide_eq_true (by first | (with_reducible assumption) | assumption)
            have q5 : x5_1 < (a0.size : Int) := of_decide_eq_true (by first | (with_reducible assumption) | assumption)
            have hx5 := bt_at a0 x5_1
            replace p5 := eq_true p5
            replace q5 := eq_true q5
            go_wp2_with (first | ((with_reducible refine gate_callee (f := 29) rfl ?_); refine goesL_ (some 16) rfl rfl Tryd.func29 (by kernel_rfl) rfl #[.int .u8 (bt a0 x5_1), .int .u8 97, .int .u8 122] rfl (by (try simp only [List.map_toArray, List.map_cons, List.map_nil]); first | done | rfl | (simp only [List.length_drop, List.length_take]; rfl)) ?_; (with_reducible refine (cambistref02_within.calls (bt a0 x5_1) 97 122 true _ ?side1 A6.out).mono ?_); (case side1 => (repeat (first | exact HG.out | apply Glob.drewN | apply Glob.drew))); rintro e w' ⟨rfl, ⟨nd, rfl⟩⟩; refine ⟨_, rfl, ?_⟩))
            go_roundg k1
            case measure => have := HK1.out; omega
            case rel => exact ⟨(wrap64 (x5_1 + 1)), (by first | rfl | (simp; done) | (simp [*]; done)), H', ⟨by have := HK1.out; omega⟩, by repeat (first | exact Drawn0.refl _ | apply Drawn0.step)⟩
          · replace c7 := Bool.eq_false_iff.mpr c7
            subst c7
            have H1 : ((cambistref02_within.f (bt a0 x5_1) 65 90).bind fun t179 => (if t179 = true then (cambistref02_part.l0 k1 a0 a1 (wrap64 (x5_1 + 1))) else ((cambistref02_within.f (bt a0 x5_1) 48 57).bind fun t180 => (if t180 = true then (cambistref02_part.l0 k1 a0 a1 (wrap64 (x5_1 + 1))) else (if ((bt a0 x5_1) = 45) then (cambistref02_part.l0 k1 a0 a1 (wrap64 (x5_1 + 1))) else (some false)))))) = some r := by rw [if_neg (show ¬ (false = true) by decide)] at H; exact H
            clear H
            have H := H1
            clear H1
            replace H := Option.bind_eq_some_iff.mp H
            obtain ⟨t179, A90, H⟩ := H
            replace H : (if t179 = true then (cambistref02_part.l0 k1 a0 a1 (wrap64 (x5_1 + 1))) else ((cambistref02_within.f (bt a0 x5_1) 48 57).bind fun t180 => (if t180 = true then (cambistref02_part.l0 k1 a0 a1 (wrap64 (x5_1 + 1))) else (if ((bt a0 x5_1) = 45) then (cambistref02_part.l0 k1 a0 a1 (wrap64 (x5_1 + 1))) else (some false))))) = some r := H
            have A9 := Aside0.mk A90
            clear A90
            by_cases c10 : t179 = true
            · subst c10
              have H1 : (cambistref02_part.l0 k1 a0 a1 (wrap64 (x5_1 + 1))) = some r := by rw [if_pos rfl] at H; exact H
              clear H
              have H := H1
              clear H1
              have H' := Aside0.mk H
              clear H
              have p5 : 0 ≤ (x5_1 : Int) := of_decide_eq_true (by first | (with_reducible assumption) | assumption)
              have q5 : x5_1 < (a0.size : Int) := of_decide_eq_true (by first | (with_reducible assumption) | assumption)
              have hx5 := bt_at a0 x5_1
              replace p5 := eq_true p5
              replace q5 := eq_true q5
              go_wp2_with (first | ((with_reducible refine gate_callee (f := 29) rfl ?_); refine goesL_ (some 16) rfl rfl Tryd.func29 (by kernel_rfl) rfl #[.int .u8 (bt a0 x5_1), .int .u8 97, .int .u8 122] rfl (by (try simp only [List.map_toArray, List.map_cons, List.map_nil]); first | done | rfl | (simp only [List.length_drop, List.length_take]; rfl)) ?_; (with_reducible refine (cambistref02_within.calls (bt a0 x5_1) 97 122 false _ ?side1 A6.out).mono ?_); (case side1 => (repeat (first | exact HG.out | apply Glob.drewN | apply Glob.drew))); rintro e w' ⟨rfl, ⟨nd, rfl⟩⟩; refine ⟨_, rfl, ?_⟩; have p8 : 0 ≤ (x5_1 : Int) := of_decide_eq_true (by first | (with_reducible assumption) | assumption); have q8 : x5_1 < (a0.size : Int) := of_decide_eq_true (by first | (with_reducible assumption) | assumption); have hx8 := bt_at a0 x5_1; replace p8 := eq_true p8; replace q8 := eq_true q8) | (go_at_call 29; (with_reducible refine (cambistref02_within.calls (bt a0 x5_1) 65 90 true _ ?side1 A9.out).mono ?_); (case side1 => (repeat (first | exact HG.out | apply Glob.drewN | apply Glob.drew))); rintro e w' ⟨rfl, ⟨nd, rfl⟩⟩))
              go_roundg k1
              case measure => have := HK1.out; omega
              case rel => exact ⟨(wrap64 (x5_1 + 1)), (by first | rfl | (simp; done) | (simp [*]; done)), H', ⟨by have := HK1.out; omega⟩, by repeat (first | exact Drawn0.refl _ | apply Drawn0.step)⟩
            · replace c10 := Bool.eq_false_iff.mpr c10
              subst c10
              have H1 : ((cambistref02_within.f (bt a0 x5_1) 48 57).bind fun t180 => (if t180 = true then (cambistref02_part.l0 k1 a0 a1 (wrap64 (x5_1 + 1))) else (if ((bt a0 x5_1) = 45) then (cambistref02_part.l0 k1 a0 a1 (wrap64 (x5_1 + 1))) else (some false)))) = some r := by rw [if_neg (show ¬ (false = true) by decide)] at H; exact H
              clear H
              have H := H1
              clear H1
              replace H := Option.bind_eq_some_iff.mp H
              obtain ⟨t180, A120, H⟩ := H
              replace H : (if t180 = true then (cambistref02_part.l0 k1 a0 a1 (wrap64 (x5_1 + 1))) else (if ((bt a0 x5_1) = 45) then (cambistref02_part.l0 k1 a0 a1 (wrap64 (x5_1 + 1))) else (some false))) = some r := H
              have A12 := Aside0.mk A120
              clear A120
              by_cases c13 : t180 = true
              · subst c13
                have H1 : (cambistref02_part.l0 k1 a0 a1 (wrap64 (x5_1 + 1))) = some r := by rw [if_pos rfl] at H; exact H
                clear H
                have H := H1
                clear H1
                have H' := Aside0.mk H
                clear H
                have p5 : 0 ≤ (x5_1 : Int) := of_decide_eq_true (by first | (with_reducible assumption) | assumption)
                have q5 : x5_1 < (a0.size : Int) := of_decide_eq_true (by first | (with_reducible assumption) | assumption)
                have hx5 := bt_at a0 x5_1
                replace p5 := eq_true p5
                replace q5 := eq_true q5
                go_wp2_with (first | ((with_reducible refine gate_callee (f := 29) rfl ?_); refine goesL_ (some 16) rfl rfl Tryd.func29 (by kernel_rfl) rfl #[.int .u8 (bt a0 x5_1), .int .u8 97, .int .u8 122] rfl (by (try simp only [List.map_toArray, List.map_cons, List.map_nil]); first | done | rfl | (simp only [List.length_drop, List.length_take]; rfl)) ?_; (with_reducible refine (cambistref02_within.calls (bt a0 x5_1) 97 122 false _ ?side1 A6.out).mono ?_); (case side1 => (repeat (first | exact HG.out | apply Glob.drewN | apply Glob.drew))); rintro e w' ⟨rfl, ⟨nd, rfl⟩⟩; refine ⟨_, rfl, ?_⟩; have p8 : 0 ≤ (x5_1 : Int) := of_decide_eq_true (by first | (with_reducible assumption) | assumption); have q8 : x5_1 < (a0.size : Int) := of_decide_eq_true (by first | (with_reducible assumption) | assumption); have hx8 := bt_at a0 x5_1; replace p8 := eq_true p8; replace q8 := eq_true q8) | (go_at_call 29; (with_reducible refine (cambistref02_within.calls (bt a0 x5_1) 65 90 false _ ?side1 A9.out).mono ?_); (case side1 => (repeat (first | exact HG.out | apply Glob.drewN | apply Glob.drew))); rintro e w' ⟨rfl, ⟨nd, rfl⟩⟩; have p11 : 0 ≤ (x5_1 : Int) := of_decide_eq_true (by first | (with_reducible assumption) | assumption); have q11 : x5_1 < (a0.size : Int) := of_decide_eq_true (by first | (with_reducible assumption) | assumption); have hx11 := bt_at a0 x5_1; replace p11 := eq_true p11; replace q11 := eq_true q11) | (go_at_call 29; (with_reducible refine (cambistref02_within.calls (bt a0 x5_1) 48 57 true _ ?side1 A12.out).mono ?_); (case side1 => (repeat (first | exact HG.out | apply Glob.drewN | apply Glob.drew))); rintro e w' ⟨rfl, ⟨nd, rfl⟩⟩))
                go_roundg k1
                case measure => have := HK1.out; omega
                case rel => exact ⟨(wrap64 (x5_1 + 1)), (by first | rfl | (simp; done) | (simp [*]; done)), H', ⟨by have := HK1.out; omega⟩, by repeat (first | exact Drawn0.refl _ | apply Drawn0.step)⟩
              · replace c13 := Bool.eq_false_iff.mpr c13
                subst c13
                have H1 : (if ((bt a0 x5_1) = 45) then (cambistref02_part.l0 k1 a0 a1 (wrap64 (x5_1 + 1))) else (some false)) = some r := by rw [if_neg (show ¬ (false = true) by decide)] at H; exact H
                clear H
                have H := H1
                clear H1
                by_cases c15 : ((bt a0 x5_1) = 45)
                · rw [if_pos c15] at H
                  have c15b0 : ((bt a0 x5_1) == 45) = true := beq_iff_eq.mpr c15
                  have c15b1 : ((bt a0 x5_1) != 45) = false := bne_eq_false_iff_eq.mpr c15
                  clear c15
                  have H' := Aside0.mk H
                  clear H
                  have p5 : 0 ≤ (x5_1 : Int) := of_decide_eq_true (by first | (with_reducible assumption) | assumption)
                  have q5 : x5_1 < (a0.size : Int) := of_decide_eq_true (by first | (with_reducible assumption) | assumption)
                  have hx5 := bt_at a0 x5_1
                  replace p5 := eq_true p5
                  replace q5 := eq_true q5
                  go_wp2_with (first | ((with_reducible refine gate_callee (f := 29) rfl ?_); refine goesL_ (some 16) rfl rfl Tryd.func29 (by kernel_rfl) rfl #[.int .u8 (bt a0 x5_1), .int .u8 97, .int .u8 122] rfl (by (try simp only [List.map_toArray, List.map_cons, List.map_nil]); first | done | rfl | (simp only [List.length_drop, List.length_take]; rfl)) ?_; (with_reducible refine (cambistref02_within.calls (bt a0 x5_1) 97 122 false _ ?side1 A6.out).mono ?_); (case side1 => (repeat (first | exact HG.out | apply Glob.drewN | apply Glob.drew))); rintro e w' ⟨rfl, ⟨nd, rfl⟩⟩; refine ⟨_, rfl, ?_⟩; have p8 : 0 ≤ (x5_1 : Int) := of_decide_eq_true (by first | (with_reducible assumption) | assumption); have q8 : x5_1 < (a0.size : Int) := of_decide_eq_true (by first | (with_reducible assumption) | assumption); have hx8 := bt_at a0 x5_1; replace p8 := eq_true p8; replace q8 := eq_true q8) | (go_at_call 29; (with_reducible refine (cambistref02_within.calls (bt a0 x5_1) 65 90 false _ ?side1 A9.out).mono ?_); (case side1 => (repeat (first | exact HG.out | apply Glob.drewN | apply Glob.drew))); rintro e w' ⟨rfl, ⟨nd, rfl⟩⟩; have p11 : 0 ≤ (x5_1 : Int) := of_decide_eq_true (by first | (with_reducible assumption) | assumption); have q11 : x5_1 < (a0.size : Int) := of_decide_eq_true (by first | (with_reducible assumption) | assumption); have hx11 := bt_at a0 x5_1; replace p11 := eq_true p11; replace q11 := eq_true q11) | (go_at_call 29; (with_reducible refine (cambistref02_within.calls (bt a0 x5_1) 48 57 false _ ?side1 A12.out).mono ?_); (case side1 => (repeat (first | exact HG.out | apply Glob.drewN | apply Glob.drew))); rintro e w' ⟨rfl, ⟨nd, rfl⟩⟩; have p14 : 0 ≤ (x5_1 : Int) := of_decide_eq_true (by first | (with_reducible assumption) | assumption); have q14 : x5_1 < (a0.size : Int) := of_decide_eq_true (by first | (with_reducible assumption) | assumption); have hx14 := bt_at a0 x5_1; replace p14 := eq_true p14; replace q14 := eq_true q14))
                  go_roundg k1
                  case measure => have := HK1.out; omega
                  case rel => exact ⟨(wrap64 (x5_1 + 1)), (by first | rfl | (simp; done) | (simp [*]; done)), H', ⟨by have := HK1.out; omega⟩, by repeat (first | exact Drawn0.refl _ | apply Drawn0.step)⟩
                · rw [if_neg c15] at H
                  have c15b0 : ((bt a0 x5_1) == 45) = false := beq_eq_false_iff_ne.mpr c15
                  have c15b1 : ((bt a0 x5_1) != 45) = true := bne_iff_ne.mpr c15
                  obtain rfl := Option.some.inj H
                  have p5 : 0 ≤ (x5_1 : Int) := of_decide_eq_true (by first | (with_reducible assumption) | assumption)
                  have q5 : x5_1 < (a0.size : Int) := of_decide_eq_true (by first | (with_reducible assumption) | assumption)
                  have hx5 := bt_at a0 x5_1
                  replace p5 := eq_true p5
                  replace q5 := eq_true q5
                  go_wp2_with (first | ((with_reducible refine gate_callee (f := 29) rfl ?_); refine goesL_ (some 16) rfl rfl Tryd.func29 (by kernel_rfl) rfl #[.int .u8 (bt a0 x5_1), .int .u8 97, .int .u8 122] rfl (by (try simp only [List.map_toArray, List.map_cons, List.map_nil]); first | done | rfl | (simp only [List.length_drop, List.length_take]; rfl)) ?_; (with_reducible refine (cambistref02_within.calls (bt a0 x5_1) 97 122 false _ ?side1 A6.out).mono ?_); (case side1 => (repeat (first | exact HG.out | apply Glob.drewN | apply Glob.drew))); rintro e w' ⟨rfl, ⟨nd, rfl⟩⟩; refine ⟨_, rfl, ?_⟩; have p8 : 0 ≤ (x5_1 : Int) := of_decide_eq_true (by first | (with_reducible assumption) | assumption); have q8 : x5_1 < (a0.size : Int) := of_decide_eq_true (by first | (with_reducible assumption) | assumption); have hx8 := bt_at a0 x5_1; replace p8 := eq_true p8; replace q8 := eq_true q8) | (go_at_call 29; (with_reducible refine (cambistref02_within.calls (bt a0 x5_1) 65 90 false _ ?side1 A9.out).mono ?_); (case side1 => (repeat (first | exact HG.out | apply Glob.drewN | apply Glob.drew))); rintro e w' ⟨rfl, ⟨nd, rfl⟩⟩; have p11 : 0 ≤ (x5_1 : Int) := of_decide_eq_true (by first | (with_reducible assumption) | assumption); have q11 : x5_1 < (a0.size : Int) := of_decide_eq_true (by first | (with_reducible assumption) | assumption); have hx11 := bt_at a0 x5_1; replace p11 := eq_true p11; replace q11 := eq_true q11) | (go_at_call 29; (with_reducible refine (cambistref02_within.calls (bt a0 x5_1) 48 57 false _ ?side1 A12.out).mono ?_); (case side1 => (repeat (first | exact HG.out | apply Glob.drewN | apply Glob.drew))); rintro e w' ⟨rfl, ⟨nd, rfl⟩⟩; have p14 : 0 ≤ (x5_1 : Int) := of_decide_eq_true (by first | (with_reducible assumption) | assumption); have q14 : x5_1 < (a0.size : Int) := of_decide_eq_true (by first | (with_reducible assumption) | assumption); have hx14 := bt_at a0 x5_1; replace p14 := eq_true p14; replace q14 := eq_true q14))
                  go_ret
                  exact ⟨by first | rfl | (simp; done) | (simp [*]; done), by repeat (first | exact Drawn0.refl _ | apply Drawn0.step)⟩
        · rw [if_neg c4] at H
          exact absurd H (by simp)
      · rw [if_neg c3] at H
        have c3b0 : decide (x5_1 < (a0.size : Int)) = false := decide_eq_false c3
        clear c3
        by_cases c16 : (a0.size : Int) ≥ 1
        · rw [if_pos c16] at H
          have c16b0 : decide (1 ≤ (a0.size : Int)) = true := decide_eq_true c16
          have c16b1 : decide (1 ≤ a0.size) = true := decide_eq_true (by omega)
          clear c16
          obtain rfl := Option.some.inj H
          go_wp2
          go_ret
          exact ⟨by first | rfl | (simp; done) | (simp [*]; done), by repeat (first | exact Drawn0.refl _ | apply Drawn0.step)⟩
        · rw [if_neg c16] at H
          have c16b0 : decide (1 ≤ (a0.size : Int)) = false := decide_eq_false c16
          have c16b1 : decide (1 ≤ a0.size) = false := decide_eq_false (by omega)
          clear c16
          obtain rfl := Option.some.inj H
          go_wp2
          go_ret
          exact ⟨by first | rfl | (simp; done) | (simp [*]; done), by repeat (first | exact Drawn0.refl _ | apply Drawn0.step)⟩

/-! ### cambistref02_Word: function 17 -/
def cambistref02_Word.f (k : Nat) (a0 : ByteArray) : Option (Bool) := (cambistref02_part.f k a0 12).bind fun t181 => (some t181)
theorem cambistref02_Word.mono : ∀ a0 k, LeO (cambistref02_Word.f k a0) (cambistref02_Word.f (k + 1) a0) := by
  intro a0 k
  unfold cambistref02_Word.f
  repeat' first
      | (with_reducible exact cambistref02_part.mono _ _ _)
      | (with_reducible exact LeO.refl _)
      | (with_reducible exact LeO.none _)
      | (with_reducible refine LeO.ite ?_ ?_)
      | (with_reducible refine LeO.bind ?_ (fun _ => ?_))
      | exact cambistref02_part.mono _ _ _
      | exact LeO.none _
      | refine LeO.ite ?_ ?_
      | refine LeO.bind ?_ (fun _ => ?_)
set_option maxHeartbeats 8000000 in
set_option maxRecDepth 100000 in
theorem cambistref02_Word.calls (k : Nat) (a0 : ByteArray) (r : Bool) (w : World) (hG : Glob w) (h : cambistref02_Word.f k a0 = some r) :
    Calls Tryd.prog 17 #[.string a0] w fun e w' => e = .returned (.bool r) ∧ Drawn0 w w' := by
  have HG := Aside0.mk hG
  clear hG
  have H : ((cambistref02_part.f k a0 12).bind fun t181 => (some t181)) = some r := h
  clear h
  replace H := Option.bind_eq_some_iff.mp H
  obtain ⟨t181, A20, H⟩ := H
  replace H : (some t181) = some r := H
  have A2 := Aside0.mk A20
  clear A20
  obtain rfl := Option.some.inj H
  go_enter Tryd.func17, Tryd.ntmps17
  go_wp2_with (first | ((with_reducible refine gate_callee (f := 30) rfl ?_); refine goesL_ (some 4) rfl rfl Tryd.func30 (by kernel_rfl) rfl #[.string a0, .int .i64 12] rfl (by (try simp only [List.map_toArray, List.map_cons, List.map_nil]); first | done | rfl | (simp only [List.length_drop, List.length_take]; rfl)) ?_; (with_reducible refine (cambistref02_part.calls k a0 12 t181 _ ?side1 A2.out).mono ?_); (case side1 => (repeat (first | exact HG.out | apply Glob.drewN | apply Glob.drew))); rintro e w' ⟨rfl, ⟨nd, rfl⟩⟩; refine ⟨_, rfl, ?_⟩))
  go_ret
  exact ⟨by first | rfl | (simp; done) | (simp [*]; done), by repeat (first | exact Drawn0.refl _ | apply Drawn0.step)⟩

/-! ### cambistref02_End: function 21 -/
def cambistref02_End.f (a0 : ByteArray) : Option (ByteArray) := if a0.size + 1 ≤ 9223372036854775807 then (some (a0 ++ (⟨#[125]⟩ : ByteArray))) else (none)
set_option maxHeartbeats 8000000 in
set_option maxRecDepth 100000 in
theorem cambistref02_End.calls (a0 : ByteArray) (r : ByteArray) (w : World) (hG : Glob w) (h : cambistref02_End.f a0 = some r) :
    Calls Tryd.prog 21 #[.string a0] w fun e w' => e = .returned (.string r) ∧ Drawn0 w w' := by
  have HG := Aside0.mk hG
  clear hG
  have H : (if a0.size + 1 ≤ 9223372036854775807 then (some (a0 ++ (⟨#[125]⟩ : ByteArray))) else (none)) = some r := h
  clear h
  by_cases c2 : a0.size + 1 ≤ 9223372036854775807
  · rw [if_pos c2] at H
    have c2b0 := eq_true c2
    have c2b1 : decide (a0.size + 1 ≤ 9223372036854775807) = true := decide_eq_true c2
    try have c2b2 : (9223372036854775807 < a0.size + 1) = False := eq_false (Nat.not_lt.2 c2)
    obtain rfl := Option.some.inj H
    go_enter Tryd.func21, Tryd.ntmps21
    go_wp2
    go_ret
    exact ⟨by first | rfl | (simp; done) | (simp [*]; done), by repeat (first | exact Drawn0.refl _ | apply Drawn0.step)⟩
  · rw [if_neg c2] at H
    exact absurd H (by simp)

/-! ### cambistlaw02_LabelTells: function 4 -/
def cambistlaw02_LabelTells.j0 : Nat → ByteArray → Int → Bool → Int → Int → Int → Int → Bool → Option (Bool)
  | 0, _, _, _, _, _, _, _, _ => none
  | k + 1, x0, x1, x5, x6, x7, x8, x9, x10 => if x5 = true then (if x10 = true then ((label_Digits.f x1).bind fun t193 => ((cambistref02_Digits.f k x1).bind fun t194 => (if t193.toList = t194.toList then (if x6 = x8 then (if x7 = x9 then ((label_End.f x0).bind fun t195 => ((cambistref02_End.f x0).bind fun t196 => (some (t195.toList == t196.toList)))) else (none)) else (none)) else (none)))) else (none)) else (none)
def cambistlaw02_LabelTells.f (k : Nat) (a0 : ByteArray) (a1 : Int) : Option (Bool) := (cambistlaw02_awake.f k).bind fun t182 => (if (a0.size : Int) > 100 then (some t182) else ((label_Number.f a0).bind fun bt183 => ((cambistref02_Number.f k a0).bind fun bt185 => ((label_Who.f a0).bind fun t187 => ((cambistref02_Who.f k a0).bind fun t188 => (if (t187 == t188) = true then ((label_Asset.f a0).bind fun t189 => ((cambistref02_Asset.f k a0).bind fun t190 => (if (t189 == t190) = true then ((label_Word.f a0).bind fun t191 => ((cambistref02_Word.f k a0).bind fun t192 => (cambistlaw02_LabelTells.j0 k a0 a1 t182 bt183.1 bt183.2 bt185.1 bt185.2 (t191 == t192)))) else (cambistlaw02_LabelTells.j0 k a0 a1 t182 bt183.1 bt183.2 bt185.1 bt185.2 false)))) else (cambistlaw02_LabelTells.j0 k a0 a1 t182 bt183.1 bt183.2 bt185.1 bt185.2 false)))))))
theorem cambistlaw02_LabelTells.mono_l : ∀ k, (∀ y0 y1 y2 y3 y4 y5 y6 y7, LeO (cambistlaw02_LabelTells.j0 k y0 y1 y2 y3 y4 y5 y6 y7) (cambistlaw02_LabelTells.j0 (k + 1) y0 y1 y2 y3 y4 y5 y6 y7))
  | 0 => fun _ _ _ _ _ _ _ _ r h => by simp [cambistlaw02_LabelTells.j0] at h
  | k + 1 => by
    have ih0 := cambistlaw02_LabelTells.mono_l k
    · intro y0 y1 y2 y3 y4 y5 y6 y7
      unfold cambistlaw02_LabelTells.j0
      repeat' first
      | (with_reducible exact ih0 _ _ _ _ _ _ _ _)
      | (with_reducible exact cambistlaw02_awake.mono _)
      | (with_reducible exact cambistref02_Asset.mono _ _)
      | (with_reducible exact cambistref02_Digits.mono _ _)
      | (with_reducible exact cambistref02_Number.mono _ _)
      | (with_reducible exact cambistref02_Who.mono _ _)
      | (with_reducible exact cambistref02_Word.mono _ _)
      | (with_reducible exact LeO.refl _)
      | (with_reducible exact LeO.none _)
      | (with_reducible refine LeO.ite ?_ ?_)
      | (with_reducible refine LeO.bind ?_ (fun _ => ?_))
      | exact ih0 _ _ _ _ _ _ _ _
      | exact cambistlaw02_awake.mono _
      | exact cambistref02_Asset.mono _ _
      | exact cambistref02_Digits.mono _ _
      | exact cambistref02_Number.mono _ _
      | exact cambistref02_Who.mono _ _
      | exact cambistref02_Word.mono _ _
      | exact LeO.none _
      | refine LeO.ite ?_ ?_
      | refine LeO.bind ?_ (fun _ => ?_)
theorem cambistlaw02_LabelTells.mono : ∀ a0 a1 k, LeO (cambistlaw02_LabelTells.f k a0 a1) (cambistlaw02_LabelTells.f (k + 1) a0 a1) := by
  intro a0 a1 k
  have ih0 := cambistlaw02_LabelTells.mono_l k
  unfold cambistlaw02_LabelTells.f
  repeat' first
      | (with_reducible exact ih0 _ _ _ _ _ _ _ _)
      | (with_reducible exact cambistlaw02_awake.mono _)
      | (with_reducible exact cambistref02_Asset.mono _ _)
      | (with_reducible exact cambistref02_Digits.mono _ _)
      | (with_reducible exact cambistref02_Number.mono _ _)
      | (with_reducible exact cambistref02_Who.mono _ _)
      | (with_reducible exact cambistref02_Word.mono _ _)
      | (with_reducible exact LeO.refl _)
      | (with_reducible exact LeO.none _)
      | (with_reducible refine LeO.ite ?_ ?_)
      | (with_reducible refine LeO.bind ?_ (fun _ => ?_))
      | exact ih0 _ _ _ _ _ _ _ _
      | exact cambistlaw02_awake.mono _
      | exact cambistref02_Asset.mono _ _
      | exact cambistref02_Digits.mono _ _
      | exact cambistref02_Number.mono _ _
      | exact cambistref02_Who.mono _ _
      | exact cambistref02_Word.mono _ _
      | exact LeO.none _
      | refine LeO.ite ?_ ?_
      | refine LeO.bind ?_ (fun _ => ?_)
set_option maxHeartbeats 8000000 in
set_option maxRecDepth 100000 in
theorem cambistlaw02_LabelTells.calls (k : Nat) (a0 : ByteArray) (a1 : Int) (r : Bool) (w : World) (hG : Glob w) (h : cambistlaw02_LabelTells.f k a0 a1 = some r) :
    Calls Tryd.prog 4 #[.string a0, .int .u64 a1] w fun e w' => e = .returned (.bool r) ∧ Below w.heap.size w w' := by
  have HG := Aside0.mk hG
  clear hG
  have HB := Aside0.mk (Below.refl w.heap.size w)
  have H : ((cambistlaw02_awake.f k).bind fun t182 => (if (a0.size : Int) > 100 then (some t182) else ((label_Number.f a0).bind fun bt183 => ((cambistref02_Number.f k a0).bind fun bt185 => ((label_Who.f a0).bind fun t187 => ((cambistref02_Who.f k a0).bind fun t188 => (if (t187 == t188) = true then ((label_Asset.f a0).bind fun t189 => ((cambistref02_Asset.f k a0).bind fun t190 => (if (t189 == t190) = true then ((label_Word.f a0).bind fun t191 => ((cambistref02_Word.f k a0).bind fun t192 => (cambistlaw02_LabelTells.j0 k a0 a1 t182 bt183.1 bt183.2 bt185.1 bt185.2 (t191 == t192)))) else (cambistlaw02_LabelTells.j0 k a0 a1 t182 bt183.1 bt183.2 bt185.1 bt185.2 false)))) else (cambistlaw02_LabelTells.j0 k a0 a1 t182 bt183.1 bt183.2 bt185.1 bt185.2 false)))))))) = some r := h
  clear h
  replace H := Option.bind_eq_some_iff.mp H
  obtain ⟨t182, A30, H⟩ := H
  replace H : (if (a0.size : Int) > 100 then (some t182) else ((label_Number.f a0).bind fun bt183 => ((cambistref02_Number.f k a0).bind fun bt185 => ((label_Who.f a0).bind fun t187 => ((cambistref02_Who.f k a0).bind fun t188 => (if (t187 == t188) = true then ((label_Asset.f a0).bind fun t189 => ((cambistref02_Asset.f k a0).bind fun t190 => (if (t189 == t190) = true then ((label_Word.f a0).bind fun t191 => ((cambistref02_Word.f k a0).bind fun t192 => (cambistlaw02_LabelTells.j0 k a0 a1 t182 bt183.1 bt183.2 bt185.1 bt185.2 (t191 == t192)))) else (cambistlaw02_LabelTells.j0 k a0 a1 t182 bt183.1 bt183.2 bt185.1 bt185.2 false)))) else (cambistlaw02_LabelTells.j0 k a0 a1 t182 bt183.1 bt183.2 bt185.1 bt185.2 false))))))) = some r := H
  have A3 := Aside0.mk A30
  clear A30
  by_cases c4 : (a0.size : Int) > 100
  · rw [if_pos c4] at H
    have c4b0 : decide (100 < (a0.size : Int)) = true := decide_eq_true c4
    have c4b1 : decide (100 < a0.size) = true := decide_eq_true (by omega)
    clear c4
    obtain rfl := Option.some.inj H
    go_enter Tryd.func4, Tryd.ntmps4
    go_wp2_with (first | ((with_reducible refine gate_callee (f := 9) rfl ?_); refine goesL_ (some 11) rfl rfl Tryd.func9 (by kernel_rfl) rfl #[] rfl (by (try simp only [List.map_toArray, List.map_cons, List.map_nil]); first | done | rfl | (simp only [List.length_drop, List.length_take]; rfl)) ?_; (with_reducible refine (cambistlaw02_awake.calls k  t182 _ ?side1 A3.out).mono ?_); (case side1 => exact Glob.below HG.out (by repeat (first | (with_reducible first | exact HB.out | apply below_alloc | apply pw_below_drewN | apply below_drew1) | exact HB.out))); rintro e w5 ⟨rfl, hb⟩; refine ⟨_, rfl, ?_⟩; have n0_ := Aside0.mk (below_step (by repeat (first | (with_reducible first | exact HB.out | apply below_alloc | apply pw_below_drewN | apply below_drew1) | exact HB.out)) hb); clear HB; have HB := n0_; clear n0_; (try clear hb); (try clear hb2); (try clear hk); (try clear hi)))
    go_ret
    exact ⟨by first | rfl | (simp [errW_none, errW_some] <;> rfl) | (simp [*, errW_none, errW_some] <;> rfl), by repeat (first | (with_reducible first | exact HB.out | apply below_alloc | apply pw_below_drewN | apply below_drew1) | exact HB.out)⟩
  · rw [if_neg c4] at H
    have c4b0 : decide (100 < (a0.size : Int)) = false := decide_eq_false c4
    have c4b1 : decide (100 < a0.size) = false := decide_eq_false (by omega)
    clear c4
    replace H := Option.bind_eq_some_iff.mp H
    obtain ⟨⟨t183, t184⟩, A60, H⟩ := H
    replace H : ((cambistref02_Number.f k a0).bind fun bt185 => ((label_Who.f a0).bind fun t187 => ((cambistref02_Who.f k a0).bind fun t188 => (if (t187 == t188) = true then ((label_Asset.f a0).bind fun t189 => ((cambistref02_Asset.f k a0).bind fun t190 => (if (t189 == t190) = true then ((label_Word.f a0).bind fun t191 => ((cambistref02_Word.f k a0).bind fun t192 => (cambistlaw02_LabelTells.j0 k a0 a1 t182 t183 t184 bt185.1 bt185.2 (t191 == t192)))) else (cambistlaw02_LabelTells.j0 k a0 a1 t182 t183 t184 bt185.1 bt185.2 false)))) else (cambistlaw02_LabelTells.j0 k a0 a1 t182 t183 t184 bt185.1 bt185.2 false))))) = some r := H
    have A6 := Aside0.mk A60
    clear A60
    replace H := Option.bind_eq_some_iff.mp H
    obtain ⟨⟨t185, t186⟩, A70, H⟩ := H
    replace H : ((label_Who.f a0).bind fun t187 => ((cambistref02_Who.f k a0).bind fun t188 => (if (t187 == t188) = true then ((label_Asset.f a0).bind fun t189 => ((cambistref02_Asset.f k a0).bind fun t190 => (if (t189 == t190) = true then ((label_Word.f a0).bind fun t191 => ((cambistref02_Word.f k a0).bind fun t192 => (cambistlaw02_LabelTells.j0 k a0 a1 t182 t183 t184 t185 t186 (t191 == t192)))) else (cambistlaw02_LabelTells.j0 k a0 a1 t182 t183 t184 t185 t186 false)))) else (cambistlaw02_LabelTells.j0 k a0 a1 t182 t183 t184 t185 t186 false)))) = some r := H
    have A7 := Aside0.mk A70
    clear A70
    have HC8 := Aside0.mk H
    clear H
    go_enter Tryd.func4, Tryd.ntmps4
    go_upto_region 6 with (first | ((with_reducible refine gate_callee (f := 9) rfl ?_); refine goesL_ (some 11) rfl rfl Tryd.func9 (by kernel_rfl) rfl #[] rfl (by (try simp only [List.map_toArray, List.map_cons, List.map_nil]); first | done | rfl | (simp only [List.length_drop, List.length_take]; rfl)) ?_; (with_reducible refine (cambistlaw02_awake.calls k  t182 _ ?side1 A3.out).mono ?_); (case side1 => exact Glob.below HG.out (by repeat (first | (with_reducible first | exact HB.out | apply below_alloc | apply pw_below_drewN | apply below_drew1) | exact HB.out))); rintro e w9 ⟨rfl, hb⟩; refine ⟨_, rfl, ?_⟩; have n0_ := Aside0.mk (below_step (by repeat (first | (with_reducible first | exact HB.out | apply below_alloc | apply pw_below_drewN | apply below_drew1) | exact HB.out)) hb); clear HB; have HB := n0_; clear n0_; (try clear hb); (try clear hb2); (try clear hk); (try clear hi)) | ((with_reducible refine gate_callee (f := 10) rfl ?_); refine goesL_ (some 18) rfl rfl Tryd.func10 (by kernel_rfl) rfl #[.string a0] rfl (by (try simp only [List.map_toArray, List.map_cons, List.map_nil]); first | done | rfl | (simp only [List.length_drop, List.length_take]; rfl)) ?_; (with_reducible refine (label_Number.calls a0 t183 t184 _ ?side1 A6.out).mono ?_); (case side1 => exact Glob.below HG.out (by repeat (first | (with_reducible first | exact HB.out | apply below_alloc | apply pw_below_drewN | apply below_drew1) | exact HB.out))); rintro e w10 ⟨rfl, hb⟩; refine ⟨_, rfl, ?_⟩; have n0_ := Aside0.mk (below_step (by repeat (first | (with_reducible first | exact HB.out | apply below_alloc | apply pw_below_drewN | apply below_drew1) | exact HB.out)) hb); clear HB; have HB := n0_; clear n0_; (try clear hb); (try clear hb2); (try clear hk); (try clear hi)) | ((with_reducible refine gate_callee (f := 11) rfl ?_); refine goesL_ (some 23) rfl rfl Tryd.func11 (by kernel_rfl) rfl #[.string a0] rfl (by (try simp only [List.map_toArray, List.map_cons, List.map_nil]); first | done | rfl | (simp only [List.length_drop, List.length_take]; rfl)) ?_; (with_reducible refine (cambistref02_Number.calls k a0 t185 t186 _ ?side1 A7.out).mono ?_); (case side1 => exact Glob.below HG.out (by repeat (first | (with_reducible first | exact HB.out | apply below_alloc | apply pw_below_drewN | apply below_drew1) | exact HB.out))); rintro e w11 ⟨rfl, hb⟩; refine ⟨_, rfl, ?_⟩; have n0_ := Aside0.mk (below_step (by repeat (first | (with_reducible first | exact HB.out | apply below_alloc | apply pw_below_drewN | apply below_drew1) | exact HB.out)) hb); clear HB; have HB := n0_; clear n0_; (try clear hb); (try clear hb2); (try clear hk); (try clear hi)))
    (try simp only [Act.put, List.setIfInBounds_toArray, List.set_cons_zero, List.set_cons_succ])
    go_cut [10] (fun v10 wc => ∃ (kq : Nat) (x10_7 : Bool), v10 = .bool x10_7 ∧ Aside0 (cambistlaw02_LabelTells.j0 kq a0 a1 t182 t183 t184 t185 t186 x10_7 = some r) ∧ Aside0 (kq ≤ k) ∧ Aside0 (Below w.heap.size w wc))
    case first =>
      have H := HC8.out
      clear HC8
      replace H := Option.bind_eq_some_iff.mp H
      obtain ⟨t187, A120, H⟩ := H
      replace H : ((cambistref02_Who.f k a0).bind fun t188 => (if (t187 == t188) = true then ((label_Asset.f a0).bind fun t189 => ((cambistref02_Asset.f k a0).bind fun t190 => (if (t189 == t190) = true then ((label_Word.f a0).bind fun t191 => ((cambistref02_Word.f k a0).bind fun t192 => (cambistlaw02_LabelTells.j0 k a0 a1 t182 t183 t184 t185 t186 (t191 == t192)))) else (cambistlaw02_LabelTells.j0 k a0 a1 t182 t183 t184 t185 t186 false)))) else (cambistlaw02_LabelTells.j0 k a0 a1 t182 t183 t184 t185 t186 false))) = some r := H
      have A12 := Aside0.mk A120
      clear A120
      replace H := Option.bind_eq_some_iff.mp H
      obtain ⟨t188, A130, H⟩ := H
      replace H : (if (t187 == t188) = true then ((label_Asset.f a0).bind fun t189 => ((cambistref02_Asset.f k a0).bind fun t190 => (if (t189 == t190) = true then ((label_Word.f a0).bind fun t191 => ((cambistref02_Word.f k a0).bind fun t192 => (cambistlaw02_LabelTells.j0 k a0 a1 t182 t183 t184 t185 t186 (t191 == t192)))) else (cambistlaw02_LabelTells.j0 k a0 a1 t182 t183 t184 t185 t186 false)))) else (cambistlaw02_LabelTells.j0 k a0 a1 t182 t183 t184 t185 t186 false)) = some r := H
      have A13 := Aside0.mk A130
      clear A130
      by_cases c14 : (t187 == t188) = true
      · rw [if_pos c14] at H
        have c14b0 : (t187 == t188) = true := c14
        (try (have c14b1 : decide (t187 = t188) = true := by simpa using c14))
        (try (have c14b2 : (t187 == t188) = true := by simpa using c14))
        clear c14
        (first | rw [c14b0] | (simp only [i64_w, i32_w]; rw [c14b0]) | skip)
        replace H := Option.bind_eq_some_iff.mp H
        obtain ⟨t189, A150, H⟩ := H
        replace H : ((cambistref02_Asset.f k a0).bind fun t190 => (if (t189 == t190) = true then ((label_Word.f a0).bind fun t191 => ((cambistref02_Word.f k a0).bind fun t192 => (cambistlaw02_LabelTells.j0 k a0 a1 t182 t183 t184 t185 t186 (t191 == t192)))) else (cambistlaw02_LabelTells.j0 k a0 a1 t182 t183 t184 t185 t186 false))) = some r := H
        have A15 := Aside0.mk A150
        clear A150
        replace H := Option.bind_eq_some_iff.mp H
        obtain ⟨t190, A160, H⟩ := H
        replace H : (if (t189 == t190) = true then ((label_Word.f a0).bind fun t191 => ((cambistref02_Word.f k a0).bind fun t192 => (cambistlaw02_LabelTells.j0 k a0 a1 t182 t183 t184 t185 t186 (t191 == t192)))) else (cambistlaw02_LabelTells.j0 k a0 a1 t182 t183 t184 t185 t186 false)) = some r := H
        have A16 := Aside0.mk A160
        clear A160
        by_cases c17 : (t189 == t190) = true
        · rw [if_pos c17] at H
          have c17b0 : (t189 == t190) = true := c17
          (try (have c17b1 : decide (t189 = t190) = true := by simpa using c17))
          (try (have c17b2 : (t189 == t190) = true := by simpa using c17))
          clear c17
          replace H := Option.bind_eq_some_iff.mp H
          obtain ⟨t191, A180, H⟩ := H
          replace H : ((cambistref02_Word.f k a0).bind fun t192 => (cambistlaw02_LabelTells.j0 k a0 a1 t182 t183 t184 t185 t186 (t191 == t192))) = some r := H
          have A18 := Aside0.mk A180
          clear A180
          replace H := Option.bind_eq_some_iff.mp H
          obtain ⟨t192, A190, H⟩ := H
          replace H : (cambistlaw02_LabelTells.j0 k a0 a1 t182 t183 t184 t185 t186 (t191 == t192)) = some r := H
          have A19 := Aside0.mk A190
          clear A190
          have H' := Aside0.mk H
          clear H
          go_wp2_with (first | ((with_reducible refine gate_callee (f := 12) rfl ?_); refine goesL_ (some 27) rfl rfl Tryd.func12 (by kernel_rfl) rfl #[.string a0] rfl (by (try simp only [List.map_toArray, List.map_cons, List.map_nil]); first | done | rfl | (simp only [List.length_drop, List.length_take]; rfl)) ?_; (with_reducible refine (label_Who.calls a0 t187 _ ?side1 A12.out).mono ?_); (case side1 => exact Glob.below HG.out (by repeat (first | (with_reducible first | exact HB.out | apply below_alloc | apply pw_below_drewN | apply below_drew1) | exact HB.out))); rintro e w20 ⟨rfl, hb⟩; refine ⟨_, rfl, ?_⟩; have n0_ := Aside0.mk (below_step (by repeat (first | (with_reducible first | exact HB.out | apply below_alloc | apply pw_below_drewN | apply below_drew1) | exact HB.out)) hb); clear HB; have HB := n0_; clear n0_; (try clear hb); (try clear hb2); (try clear hk); (try clear hi)) | ((with_reducible refine gate_callee (f := 13) rfl ?_); refine goesL_ (some 29) rfl rfl Tryd.func13 (by kernel_rfl) rfl #[.string a0] rfl (by (try simp only [List.map_toArray, List.map_cons, List.map_nil]); first | done | rfl | (simp only [List.length_drop, List.length_take]; rfl)) ?_; (with_reducible refine (cambistref02_Who.calls k a0 t188 _ ?side1 A13.out).mono ?_); (case side1 => exact Glob.below HG.out (by repeat (first | (with_reducible first | exact HB.out | apply below_alloc | apply pw_below_drewN | apply below_drew1) | exact HB.out))); rintro e w' ⟨rfl, ⟨nd, rfl⟩⟩; refine ⟨_, rfl, ?_⟩) | (go_at_call 14; (with_reducible refine (label_Asset.calls a0 t189 _ ?side1 A15.out).mono ?_); (case side1 => exact Glob.below HG.out (by repeat (first | (with_reducible first | exact HB.out | apply below_alloc | apply pw_below_drewN | apply below_drew1) | exact HB.out))); rintro e w21 ⟨rfl, hb⟩; have n0_ := Aside0.mk (below_step (by repeat (first | (with_reducible first | exact HB.out | apply below_alloc | apply pw_below_drewN | apply below_drew1) | exact HB.out)) hb); clear HB; have HB := n0_; clear n0_; (try clear hb); (try clear hb2); (try clear hk); (try clear hi)) | (go_at_call 15; (with_reducible refine (cambistref02_Asset.calls k a0 t190 _ ?side1 A16.out).mono ?_); (case side1 => exact Glob.below HG.out (by repeat (first | (with_reducible first | exact HB.out | apply below_alloc | apply pw_below_drewN | apply below_drew1) | exact HB.out))); rintro e w' ⟨rfl, ⟨nd, rfl⟩⟩) | (go_at_call 16; (with_reducible refine (label_Word.calls a0 t191 _ ?side1 A18.out).mono ?_); (case side1 => exact Glob.below HG.out (by repeat (first | (with_reducible first | exact HB.out | apply below_alloc | apply pw_below_drewN | apply below_drew1) | exact HB.out))); rintro e w22 ⟨rfl, hb⟩; have n0_ := Aside0.mk (below_step (by repeat (first | (with_reducible first | exact HB.out | apply below_alloc | apply pw_below_drewN | apply below_drew1) | exact HB.out)) hb); clear HB; have HB := n0_; clear n0_; (try clear hb); (try clear hb2); (try clear hk); (try clear hi)) | (go_at_call 17; (with_reducible refine (cambistref02_Word.calls k a0 t192 _ ?side1 A19.out).mono ?_); (case side1 => exact Glob.below HG.out (by repeat (first | (with_reducible first | exact HB.out | apply below_alloc | apply pw_below_drewN | apply below_drew1) | exact HB.out))); rintro e w' ⟨rfl, ⟨nd, rfl⟩⟩))
          go_meet
          case rel => exact ⟨_, ((t191 == t192)), (by first | rfl | (simp; done) | (simp [*]; done)), H', ⟨by first | omega | exact Nat.le_refl _⟩, ⟨by repeat (first | (with_reducible first | exact HB.out | apply below_alloc | apply pw_below_drewN | apply below_drew1) | exact HB.out)⟩⟩
        · rw [if_neg c17] at H
          have c17b0 : (t189 == t190) = false := by simpa using c17
          (try (have c17b1 : decide (t189 = t190) = false := by simpa using c17))
          (try (have c17b2 : (t189 == t190) = false := by simpa using c17))
          (try (have c17b3 : ¬ (t189 = t190) := by simpa using c17))
          clear c17
          have H' := Aside0.mk H
          clear H
          go_wp2_with (first | ((with_reducible refine gate_callee (f := 12) rfl ?_); refine goesL_ (some 27) rfl rfl Tryd.func12 (by kernel_rfl) rfl #[.string a0] rfl (by (try simp only [List.map_toArray, List.map_cons, List.map_nil]); first | done | rfl | (simp only [List.length_drop, List.length_take]; rfl)) ?_; (with_reducible refine (label_Who.calls a0 t187 _ ?side1 A12.out).mono ?_); (case side1 => exact Glob.below HG.out (by repeat (first | (with_reducible first | exact HB.out | apply below_alloc | apply pw_below_drewN | apply below_drew1) | exact HB.out))); rintro e w23 ⟨rfl, hb⟩; refine ⟨_, rfl, ?_⟩; have n0_ := Aside0.mk (below_step (by repeat (first | (with_reducible first | exact HB.out | apply below_alloc | apply pw_below_drewN | apply below_drew1) | exact HB.out)) hb); clear HB; have HB := n0_; clear n0_; (try clear hb); (try clear hb2); (try clear hk); (try clear hi)) | ((with_reducible refine gate_callee (f := 13) rfl ?_); refine goesL_ (some 29) rfl rfl Tryd.func13 (by kernel_rfl) rfl #[.string a0] rfl (by (try simp only [List.map_toArray, List.map_cons, List.map_nil]); first | done | rfl | (simp only [List.length_drop, List.length_take]; rfl)) ?_; (with_reducible refine (cambistref02_Who.calls k a0 t188 _ ?side1 A13.out).mono ?_); (case side1 => exact Glob.below HG.out (by repeat (first | (with_reducible first | exact HB.out | apply below_alloc | apply pw_below_drewN | apply below_drew1) | exact HB.out))); rintro e w' ⟨rfl, ⟨nd, rfl⟩⟩; refine ⟨_, rfl, ?_⟩) | (go_at_call 14; (with_reducible refine (label_Asset.calls a0 t189 _ ?side1 A15.out).mono ?_); (case side1 => exact Glob.below HG.out (by repeat (first | (with_reducible first | exact HB.out | apply below_alloc | apply pw_below_drewN | apply below_drew1) | exact HB.out))); rintro e w24 ⟨rfl, hb⟩; have n0_ := Aside0.mk (below_step (by repeat (first | (with_reducible first | exact HB.out | apply below_alloc | apply pw_below_drewN | apply below_drew1) | exact HB.out)) hb); clear HB; have HB := n0_; clear n0_; (try clear hb); (try clear hb2); (try clear hk); (try clear hi)) | (go_at_call 15; (with_reducible refine (cambistref02_Asset.calls k a0 t190 _ ?side1 A16.out).mono ?_); (case side1 => exact Glob.below HG.out (by repeat (first | (with_reducible first | exact HB.out | apply below_alloc | apply pw_below_drewN | apply below_drew1) | exact HB.out))); rintro e w' ⟨rfl, ⟨nd, rfl⟩⟩))
          go_meet
          case rel => exact ⟨_, (false), (by first | rfl | (simp; done) | (simp [*]; done)), H', ⟨by first | omega | exact Nat.le_refl _⟩, ⟨by repeat (first | (with_reducible first | exact HB.out | apply below_alloc | apply pw_below_drewN | apply below_drew1) | exact HB.out)⟩⟩
      · rw [if_neg c14] at H
        have c14b0 : (t187 == t188) = false := by simpa using c14
        (try (have c14b1 : decide (t187 = t188) = false := by simpa using c14))
        (try (have c14b2 : (t187 == t188) = false := by simpa using c14))
        (try (have c14b3 : ¬ (t187 = t188) := by simpa using c14))
        clear c14
        (first | rw [c14b0] | (simp only [i64_w, i32_w]; rw [c14b0]) | skip)
        have H' := Aside0.mk H
        clear H
        go_wp2_with (first | ((with_reducible refine gate_callee (f := 12) rfl ?_); refine goesL_ (some 27) rfl rfl Tryd.func12 (by kernel_rfl) rfl #[.string a0] rfl (by (try simp only [List.map_toArray, List.map_cons, List.map_nil]); first | done | rfl | (simp only [List.length_drop, List.length_take]; rfl)) ?_; (with_reducible refine (label_Who.calls a0 t187 _ ?side1 A12.out).mono ?_); (case side1 => exact Glob.below HG.out (by repeat (first | (with_reducible first | exact HB.out | apply below_alloc | apply pw_below_drewN | apply below_drew1) | exact HB.out))); rintro e w25 ⟨rfl, hb⟩; refine ⟨_, rfl, ?_⟩; have n0_ := Aside0.mk (below_step (by repeat (first | (with_reducible first | exact HB.out | apply below_alloc | apply pw_below_drewN | apply below_drew1) | exact HB.out)) hb); clear HB; have HB := n0_; clear n0_; (try clear hb); (try clear hb2); (try clear hk); (try clear hi)) | ((with_reducible refine gate_callee (f := 13) rfl ?_); refine goesL_ (some 29) rfl rfl Tryd.func13 (by kernel_rfl) rfl #[.string a0] rfl (by (try simp only [List.map_toArray, List.map_cons, List.map_nil]); first | done | rfl | (simp only [List.length_drop, List.length_take]; rfl)) ?_; (with_reducible refine (cambistref02_Who.calls k a0 t188 _ ?side1 A13.out).mono ?_); (case side1 => exact Glob.below HG.out (by repeat (first | (with_reducible first | exact HB.out | apply below_alloc | apply pw_below_drewN | apply below_drew1) | exact HB.out))); rintro e w' ⟨rfl, ⟨nd, rfl⟩⟩; refine ⟨_, rfl, ?_⟩))
        go_meet
        case rel => exact ⟨_, (false), (by first | rfl | (simp; done) | (simp [*]; done)), H', ⟨by first | omega | exact Nat.le_refl _⟩, ⟨by repeat (first | (with_reducible first | exact HB.out | apply below_alloc | apply pw_below_drewN | apply below_drew1) | exact HB.out)⟩⟩
    case rest =>
      clear HC8
      try clear c1
      try clear p2
      try clear c4
      try clear c4b0
      try clear c4b1
      try clear c9
      try clear c10
      try clear c11
      try clear c12
      try clear c13
      try clear c14
      try clear c14b0
      try clear c14b1
      try clear c14b2
      try clear c17
      try clear c17b0
      try clear c17b1
      try clear c17b2
      obtain ⟨kq, x10_7, rfl, HA, HJ7, HB⟩ := hcut
      cases kq with
      | zero => exact absurd HA.out (by simp [cambistlaw02_LabelTells.j0])
      | succ kj7 =>
        have H := HA.out
        clear HA
        simp only [cambistlaw02_LabelTells.j0] at H
        by_cases c26 : t182 = true
        · subst c26
          have H1 : (if x10_7 = true then ((label_Digits.f a1).bind fun t193 => ((cambistref02_Digits.f kj7 a1).bind fun t194 => (if t193.toList = t194.toList then (if t183 = t185 then (if t184 = t186 then ((label_End.f a0).bind fun t195 => ((cambistref02_End.f a0).bind fun t196 => (some (t195.toList == t196.toList)))) else (none)) else (none)) else (none)))) else (none)) = some r := by rw [if_pos rfl] at H; exact H
          clear H
          have H := H1
          clear H1
          by_cases c27 : x10_7 = true
          · subst c27
            have H1 : ((label_Digits.f a1).bind fun t193 => ((cambistref02_Digits.f kj7 a1).bind fun t194 => (if t193.toList = t194.toList then (if t183 = t185 then (if t184 = t186 then ((label_End.f a0).bind fun t195 => ((cambistref02_End.f a0).bind fun t196 => (some (t195.toList == t196.toList)))) else (none)) else (none)) else (none)))) = some r := by rw [if_pos rfl] at H; exact H
            clear H
            have H := H1
            clear H1
            replace H := Option.bind_eq_some_iff.mp H
            obtain ⟨t193, A280, H⟩ := H
            replace H : ((cambistref02_Digits.f kj7 a1).bind fun t194 => (if t193.toList = t194.toList then (if t183 = t185 then (if t184 = t186 then ((label_End.f a0).bind fun t195 => ((cambistref02_End.f a0).bind fun t196 => (some (t195.toList == t196.toList)))) else (none)) else (none)) else (none))) = some r := H
            have A28 := Aside0.mk A280
            clear A280
            replace H := Option.bind_eq_some_iff.mp H
            obtain ⟨t194, A290, H⟩ := H
            replace H : (if t193.toList = t194.toList then (if t183 = t185 then (if t184 = t186 then ((label_End.f a0).bind fun t195 => ((cambistref02_End.f a0).bind fun t196 => (some (t195.toList == t196.toList)))) else (none)) else (none)) else (none)) = some r := H
            have A29 := Aside0.mk A290
            clear A290
            by_cases c30 : t193.toList = t194.toList
            · rw [if_pos c30] at H
              have c30b0 : (t193.toList == t194.toList) = true := beq_iff_eq.mpr c30
              have c30b1 : (t193.toList != t194.toList) = false := bne_eq_false_iff_eq.mpr c30
              clear c30
              by_cases c31 : t183 = t185
              · rw [if_pos c31] at H
                have c31b0 : (t183 == t185) = true := beq_iff_eq.mpr c31
                have c31b1 : (t183 != t185) = false := bne_eq_false_iff_eq.mpr c31
                clear c31
                by_cases c32 : t184 = t186
                · rw [if_pos c32] at H
                  have c32b0 : (t184 == t186) = true := beq_iff_eq.mpr c32
                  have c32b1 : (t184 != t186) = false := bne_eq_false_iff_eq.mpr c32
                  clear c32
                  replace H := Option.bind_eq_some_iff.mp H
                  obtain ⟨t195, A330, H⟩ := H
                  replace H : ((cambistref02_End.f a0).bind fun t196 => (some (t195.toList == t196.toList))) = some r := H
                  have A33 := Aside0.mk A330
                  clear A330
                  replace H := Option.bind_eq_some_iff.mp H
                  obtain ⟨t196, A340, H⟩ := H
                  replace H : (some (t195.toList == t196.toList)) = some r := H
                  have A34 := Aside0.mk A340
                  clear A340
                  obtain rfl := Option.some.inj H
                  go_wp2_with (first | (go_at_call 18; (with_reducible refine (label_Digits.calls a1 t193 _ ?side1 A28.out).mono ?_); (case side1 => exact Glob.below HG.out (by repeat (first | (with_reducible first | exact HB.out | apply below_alloc | apply pw_below_drewN | apply below_drew1) | exact HB.out))); rintro e w35 ⟨rfl, hb⟩; have n0_ := Aside0.mk (below_step (by repeat (first | (with_reducible first | exact HB.out | apply below_alloc | apply pw_below_drewN | apply below_drew1) | exact HB.out)) hb); clear HB; have HB := n0_; clear n0_; (try clear hb); (try clear hb2); (try clear hk); (try clear hi)) | (go_at_call 19; (with_reducible refine (cambistref02_Digits.calls kj7 a1 t194 _ ?side1 A29.out).mono ?_); (case side1 => exact Glob.below HG.out (by repeat (first | (with_reducible first | exact HB.out | apply below_alloc | apply pw_below_drewN | apply below_drew1) | exact HB.out))); rintro e w36 ⟨rfl, hb⟩; have n0_ := Aside0.mk (below_step (by repeat (first | (with_reducible first | exact HB.out | apply below_alloc | apply pw_below_drewN | apply below_drew1) | exact HB.out)) hb); clear HB; have HB := n0_; clear n0_; (try clear hb); (try clear hb2); (try clear hk); (try clear hi)) | (go_at_call 20; (with_reducible refine (label_End.calls a0 t195 _ ?side1 A33.out).mono ?_); (case side1 => exact Glob.below HG.out (by repeat (first | (with_reducible first | exact HB.out | apply below_alloc | apply pw_below_drewN | apply below_drew1) | exact HB.out))); rintro e w' ⟨rfl, ⟨nd, rfl⟩⟩) | (go_at_call 21; (with_reducible refine (cambistref02_End.calls a0 t196 _ ?side1 A34.out).mono ?_); (case side1 => exact Glob.below HG.out (by repeat (first | (with_reducible first | exact HB.out | apply below_alloc | apply pw_below_drewN | apply below_drew1) | exact HB.out))); rintro e w' ⟨rfl, ⟨nd, rfl⟩⟩))
                  go_ret
                  exact ⟨by first | rfl | (simp [errW_none, errW_some] <;> rfl) | (simp [*, errW_none, errW_some] <;> rfl), by repeat (first | (with_reducible first | exact HB.out | apply below_alloc | apply pw_below_drewN | apply below_drew1) | exact HB.out)⟩
                · rw [if_neg c32] at H
                  exact absurd H (by simp)
              · rw [if_neg c31] at H
                exact absurd H (by simp)
            · rw [if_neg c30] at H
              exact absurd H (by simp)
          · replace c27 := Bool.eq_false_iff.mpr c27
            subst c27
            have H1 : (none) = some r := by rw [if_neg (show ¬ (false = true) by decide)] at H; exact H
            clear H
            have H := H1
            clear H1
            exact absurd H (by simp)
        · replace c26 := Bool.eq_false_iff.mpr c26
          subst c26
          have H1 : (none) = some r := by rw [if_neg (show ¬ (false = true) by decide)] at H; exact H
          clear H
          have H := H1
          clear H1
          exact absurd H (by simp)

/-! ### cambistref02_Key: function 23 -/
mutual
def cambistref02_Key.j0 : Nat → Int → List ByteArray → Bool → Option (ByteArray × Int)
  | 0, _, _, _ => none
  | k + 1, x0, x1, x24 => if x24 = true then (some ((⟨#[]⟩ : ByteArray), 20)) else (cambistref02_Key.l0 k x1 (strOfNums (([x0] : List Int))) 0)
def cambistref02_Key.l0 : Nat → List ByteArray → ByteArray → Int → Option (ByteArray × Int)
  | 0, _, _, _ => none
  | k + 1, x1, x6, x7 => if x7 < (x1.length : Int) then (if 0 ≤ x7 then ((cambistref02_part.f k (rdOf ByteArray.empty x1 x7) 16).bind fun t201 => (if t201 = true then (if x6.size + 1 ≤ 9223372036854775807 then (if (x6 ++ (⟨#[124]⟩ : ByteArray)).size + (rdOf ByteArray.empty x1 x7).size ≤ 9223372036854775807 then (cambistref02_Key.l0 k x1 ((x6 ++ (⟨#[124]⟩ : ByteArray)) ++ (rdOf ByteArray.empty x1 x7)) (wrap64 (x7 + 1))) else (none)) else (none)) else (some ((⟨#[]⟩ : ByteArray), 20)))) else (none)) else (some (x6, 0))
end
def cambistref02_Key.f (k : Nat) (a0 : Int) (l1 : List ByteArray) : Option (ByteArray × Int) := if a0 < 97 then (cambistref02_Key.j0 k a0 l1 true) else (if a0 > 122 then (cambistref02_Key.j0 k a0 l1 true) else (if (l1.length : Int) < 1 then (cambistref02_Key.j0 k a0 l1 true) else (cambistref02_Key.j0 k a0 l1 (decide ((l1.length : Int) > 4)))))
theorem cambistref02_Key.mono_l : ∀ k, (∀ y0 y1 y2, LeO (cambistref02_Key.j0 k y0 y1 y2) (cambistref02_Key.j0 (k + 1) y0 y1 y2)) ∧ (∀ y0 y1 y2, LeO (cambistref02_Key.l0 k y0 y1 y2) (cambistref02_Key.l0 (k + 1) y0 y1 y2))
  | 0 => ⟨fun _ _ _ r h => by simp [cambistref02_Key.j0] at h, fun _ _ _ r h => by simp [cambistref02_Key.l0] at h⟩
  | k + 1 => by
    obtain ⟨ih0, ih1⟩ := cambistref02_Key.mono_l k
    refine ⟨?_, ?_⟩
    · intro y0 y1 y2
      unfold cambistref02_Key.j0
      repeat' first
      | (with_reducible exact ih0 _ _ _)
      | (with_reducible exact ih1 _ _ _)
      | (with_reducible exact cambistref02_part.mono _ _ _)
      | (with_reducible exact LeO.refl _)
      | (with_reducible exact LeO.none _)
      | (with_reducible refine LeO.ite ?_ ?_)
      | (with_reducible refine LeO.bind ?_ (fun _ => ?_))
      | exact ih0 _ _ _
      | exact ih1 _ _ _
      | exact cambistref02_part.mono _ _ _
      | exact LeO.none _
      | refine LeO.ite ?_ ?_
      | refine LeO.bind ?_ (fun _ => ?_)
    · intro y0 y1 y2
      unfold cambistref02_Key.l0
      repeat' first
      | (with_reducible exact ih0 _ _ _)
      | (with_reducible exact ih1 _ _ _)
      | (with_reducible exact cambistref02_part.mono _ _ _)
      | (with_reducible exact LeO.refl _)
      | (with_reducible exact LeO.none _)
      | (with_reducible refine LeO.ite ?_ ?_)
      | (with_reducible refine LeO.bind ?_ (fun _ => ?_))
      | exact ih0 _ _ _
      | exact ih1 _ _ _
      | exact cambistref02_part.mono _ _ _
      | exact LeO.none _
      | refine LeO.ite ?_ ?_
      | refine LeO.bind ?_ (fun _ => ?_)
theorem cambistref02_Key.mono : ∀ a0 a1 k, LeO (cambistref02_Key.f k a0 a1) (cambistref02_Key.f (k + 1) a0 a1) := by
  intro a0 a1 k
  obtain ⟨ih0, ih1⟩ := cambistref02_Key.mono_l k
  unfold cambistref02_Key.f
  repeat' first
      | (with_reducible exact ih0 _ _ _)
      | (with_reducible exact ih1 _ _ _)
      | (with_reducible exact cambistref02_part.mono _ _ _)
      | (with_reducible exact LeO.refl _)
      | (with_reducible exact LeO.none _)
      | (with_reducible refine LeO.ite ?_ ?_)
      | (with_reducible refine LeO.bind ?_ (fun _ => ?_))
      | exact ih0 _ _ _
      | exact ih1 _ _ _
      | exact cambistref02_part.mono _ _ _
      | exact LeO.none _
      | refine LeO.ite ?_ ?_
      | refine LeO.bind ?_ (fun _ => ?_)
set_option maxHeartbeats 8000000 in
set_option maxRecDepth 100000 in
theorem cambistref02_Key.calls (k : Nat) (a0 : Int) (A1 : Option Addr) (c1 : Nat) (l1 : List ByteArray) (r1 : ByteArray) (r2 : Int) (w : World) (hG : Glob w) (hr1 : Kd.C Kd.string w A1 l1.length l1) (hc1 : l1.length ≤ c1) (h : cambistref02_Key.f k a0 l1 = some (r1, r2)) :
    Calls Tryd.prog 23 #[.int .u8 a0, .slice A1 l1.length c1] w fun e w' => e = .returned (.tuple #[.string r1, .int .i64 r2]) ∧ Below w.heap.size w w' := by
  have HG := Aside0.mk hG
  clear hG
  have HR1 := Aside0.mk hr1
  have HC1 := Aside0.mk hc1
  clear hr1 hc1
  have HB := Aside0.mk (Below.refl w.heap.size w)
  have H : (if a0 < 97 then (cambistref02_Key.j0 k a0 l1 true) else (if a0 > 122 then (cambistref02_Key.j0 k a0 l1 true) else (if (l1.length : Int) < 1 then (cambistref02_Key.j0 k a0 l1 true) else (cambistref02_Key.j0 k a0 l1 (decide ((l1.length : Int) > 4)))))) = some (r1, r2) := h
  clear h
  have HC3 := Aside0.mk H
  clear H
  go_enter Tryd.func23, Tryd.ntmps23
  go_upto_region 1 with (fail)
  go_cut [24] (fun v24 wc => ∃ (kq : Nat) (x24_2 : Bool), v24 = .bool x24_2 ∧ Aside0 (cambistref02_Key.j0 kq a0 l1 x24_2 = some (r1, r2)) ∧ Aside0 (kq ≤ k) ∧ Aside0 (Below w.heap.size w wc))
  case first =>
    have H := HC3.out
    clear HC3
    by_cases c4 : a0 < 97
    · rw [if_pos c4] at H
      have c4b0 : decide (a0 < 97) = true := decide_eq_true c4
      clear c4
      (first | rw [c4b0] | (simp only [i64_w, i32_w]; rw [c4b0]) | skip)
      have H' := Aside0.mk H
      clear H
      go_wp2
      go_meet
      case rel => exact ⟨_, (true), (by first | rfl | (simp; done) | (simp [*]; done)), H', ⟨by first | omega | exact Nat.le_refl _⟩, ⟨by repeat (first | (with_reducible first | exact HB.out | apply below_alloc | apply pw_below_drewN | apply below_drew1) | exact HB.out)⟩⟩
    · rw [if_neg c4] at H
      have c4b0 : decide (a0 < 97) = false := decide_eq_false c4
      clear c4
      (first | rw [c4b0] | (simp only [i64_w, i32_w]; rw [c4b0]) | skip)
      by_cases c5 : a0 > 122
      · rw [if_pos c5] at H
        have c5b0 : decide (122 < a0) = true := decide_eq_true c5
        clear c5
        have H' := Aside0.mk H
        clear H
        go_wp2
        go_meet
        case rel => exact ⟨_, (true), (by first | rfl | (simp; done) | (simp [*]; done)), H', ⟨by first | omega | exact Nat.le_refl _⟩, ⟨by repeat (first | (with_reducible first | exact HB.out | apply below_alloc | apply pw_below_drewN | apply below_drew1) | exact HB.out)⟩⟩
      · rw [if_neg c5] at H
        have c5b0 : decide (122 < a0) = false := decide_eq_false c5
        clear c5
        by_cases c6 : (l1.length : Int) < 1
        · rw [if_pos c6] at H
          have c6b0 : decide ((l1.length : Int) < 1) = true := decide_eq_true c6
          have c6b1 : decide (l1.length < 1) = true := decide_eq_true (by omega)
          clear c6
          have H' := Aside0.mk H
          clear H
          go_wp2
          go_meet
          case rel => exact ⟨_, (true), (by first | rfl | (simp; done) | (simp [*]; done)), H', ⟨by first | omega | exact Nat.le_refl _⟩, ⟨by repeat (first | (with_reducible first | exact HB.out | apply below_alloc | apply pw_below_drewN | apply below_drew1) | exact HB.out)⟩⟩
        · rw [if_neg c6] at H
          have c6b0 : decide ((l1.length : Int) < 1) = false := decide_eq_false c6
          have c6b1 : decide (l1.length < 1) = false := decide_eq_false (by omega)
          clear c6
          have H' := Aside0.mk H
          clear H
          go_wp2
          go_meet
          case rel => exact ⟨_, (decide ((l1.length : Int) > 4)), (by first | rfl | (simp; done) | (simp [*]; done)), H', ⟨by first | omega | exact Nat.le_refl _⟩, ⟨by repeat (first | (with_reducible first | exact HB.out | apply below_alloc | apply pw_below_drewN | apply below_drew1) | exact HB.out)⟩⟩
  case rest =>
    clear HC3
    try clear c1
    try clear c2
    try clear p2
    try clear c4
    try clear c4b0
    try clear c5
    try clear c5b0
    try clear c6
    try clear c6b0
    try clear c6b1
    obtain ⟨kq, x24_2, rfl, HA, HJ2, HB⟩ := hcut
    cases kq with
    | zero => exact absurd HA.out (by simp [cambistref02_Key.j0])
    | succ kj2 =>
      have H := HA.out
      clear HA
      simp only [cambistref02_Key.j0] at H
      by_cases c7 : x24_2 = true
      · subst c7
        have H1 : (some ((⟨#[]⟩ : ByteArray), 20)) = some (r1, r2) := by rw [if_pos rfl] at H; exact H
        clear H
        have H := H1
        clear H1
        simp only [Option.some.injEq, Prod.mk.injEq] at H
        obtain ⟨rfl, rfl⟩ := H
        go_wp2
        go_ret2
        exact ⟨by first | rfl | (simp [errW_none, errW_some] <;> rfl) | (simp [*, errW_none, errW_some] <;> rfl), by repeat (first | (with_reducible first | exact HB.out | apply below_alloc | apply pw_below_drewN | apply below_drew1) | exact HB.out)⟩
      · replace c7 := Bool.eq_false_iff.mpr c7
        subst c7
        have H1 : (cambistref02_Key.l0 kj2 l1 (strOfNums (([a0] : List Int))) 0) = some (r1, r2) := by rw [if_neg (show ¬ (false = true) by decide)] at H; exact H
        clear H
        have H := H1
        clear H1
        obtain ⟨y197, hy197⟩ : ∃ y_ : List Int, y_ = (([a0] : List Int)) := ⟨_, rfl⟩
        replace H : (cambistref02_Key.l0 kj2 l1 (strOfNums y197) 0) = some (r1, r2) := by first | (rw [hy197]; with_reducible exact H) | (have H2_ := (Option.bind_some _ _).symm.trans H; rw [hy197]; with_reducible exact H2_) | (have H2_ := (Option.bind_some _ _).symm.trans H; with_reducible exact H2_) | with_reducible exact H | (rw [hy197]; exact H) | exact H
        have Ny197 := Aside0.mk hy197
        clear hy197
        have H' := Aside0.mk H
        clear H
        go_wp2_with (first | ((with_reducible refine gate_dst (N := 26) rfl ?_); (try (refine gate_guard (by rfl) ?_; dsimp only)); refine Kd.R_lit (Kd.int .u8) _ 5 ?hg (N := 26) ?hd (xs := ([a0] : List Int)) (inner := [.int .u8 a0]) (ok := fun _ => True) (okp := fun _ => True) ?hr ?hp (fun _ hk => hk) trivial (Below.refl _ _) (Nat.le_refl _) (by simp) ?_; (case hd => rfl); (case hg => rfl); (case hr => first | (go_simp; done) | (go_simp; rfl)); (case hp => exact (Reps.one (show Kd.M (Kd.int .u8) _ _ _ a0 [.int .u8 a0] from rfl) (Reps.none _ _))); intro v198 w8 ho9 hb hg_ hnew_; clear hg_ hnew_; (first | rw [← Ny197.out] at ho9 | (simp only [Int.reduceToNat] at ho9; rw [← Ny197.out] at ho9)); have n0_ := Aside0.mk (Kd.R_lower ho9 (below_size (by repeat (first | (with_reducible first | exact HB.out | apply below_alloc | apply pw_below_drewN | apply below_drew1) | exact HB.out)))); have n1_ := Aside0.mk (below_step (by repeat (first | (with_reducible first | exact HB.out | apply below_alloc | apply pw_below_drewN | apply below_drew1) | exact HB.out)) hb); clear HB; have HO199 := n0_; have HB := n1_; clear n0_ n1_; clear hb ho9; have hcv10 := own_string (P := Tryd.prog) Tryd.underlying41 Tryd.underlying5 Tryd.underlying9 (Kd.own_of_R HO199.out)))
        go_loopg [6, 7] kj2 (fun kq v6 v7 w' => ∃ (x6_2 : ByteArray) (x7_2 : Int), v6 = .string x6_2 ∧ v7 = .int .i64 x7_2 ∧ Aside0 (cambistref02_Key.l0 kq l1 x6_2 x7_2 = some (r1, r2)) ∧ Aside0 (kq ≤ kj2) ∧ Aside0 (Below w.heap.size w w'))
        case atStart => exact ⟨(strOfNums y197), (0), (by first | rfl | (simp; done) | (simp [*]; done)), (by first | rfl | (simp; done) | (simp [*]; done)), H', ⟨Nat.le_refl _⟩, ⟨by repeat (first | (with_reducible first | exact HB.out | apply below_alloc | apply pw_below_drewN | apply below_drew1) | exact HB.out)⟩⟩
        case round =>
          clear H'
          try clear c1
          try clear hcv1
          try clear c2
          try clear p2
          try clear c4
          try clear c4b0
          try clear c5
          try clear c5b0
          try clear c6
          try clear c6b0
          try clear c6b1
          try clear c7
          try clear hcv10
          try clear p2
          obtain ⟨x6_2, x7_2, rfl, rfl, HA, HK2, HB⟩ := hrel
          cases gk with
          | zero => exact absurd HA.out (by simp [cambistref02_Key.l0])
          | succ k2 =>
            have H := HA.out
            clear HA
            simp only [cambistref02_Key.l0] at H
            by_cases c11 : x7_2 < (l1.length : Int)
            · rw [if_pos c11] at H
              have c11b0 : decide (x7_2 < (l1.length : Int)) = true := decide_eq_true c11
              clear c11
              by_cases c12 : 0 ≤ x7_2
              · rw [if_pos c12] at H
                have c12b0 : decide (0 ≤ x7_2) = true := decide_eq_true c12
                clear c12
                replace H := Option.bind_eq_some_iff.mp H
                obtain ⟨t201, A130, H⟩ := H
                replace H : (if t201 = true then (if x6_2.size + 1 ≤ 9223372036854775807 then (if (x6_2 ++ (⟨#[124]⟩ : ByteArray)).size + (rdOf ByteArray.empty l1 x7_2).size ≤ 9223372036854775807 then (cambistref02_Key.l0 k2 l1 ((x6_2 ++ (⟨#[124]⟩ : ByteArray)) ++ (rdOf ByteArray.empty l1 x7_2)) (wrap64 (x7_2 + 1))) else (none)) else (none)) else (some ((⟨#[]⟩ : ByteArray), 20))) = some (r1, r2) := H
                have A13 := Aside0.mk A130
                clear A130
                by_cases c14 : t201 = true
                · subst c14
                  have H1 : (if x6_2.size + 1 ≤ 9223372036854775807 then (if (x6_2 ++ (⟨#[124]⟩ : ByteArray)).size + (rdOf ByteArray.empty l1 x7_2).size ≤ 9223372036854775807 then (cambistref02_Key.l0 k2 l1 ((x6_2 ++ (⟨#[124]⟩ : ByteArray)) ++ (rdOf ByteArray.empty l1 x7_2)) (wrap64 (x7_2 + 1))) else (none)) else (none)) = some (r1, r2) := by rw [if_pos rfl] at H; exact H
                  clear H
                  have H := H1
                  clear H1
                  by_cases c15 : x6_2.size + 1 ≤ 9223372036854775807
                  · rw [if_pos c15] at H
                    have c15b0 := eq_true c15
                    have c15b1 : decide (x6_2.size + 1 ≤ 9223372036854775807) = true := decide_eq_true c15
                    try have c15b2 : (9223372036854775807 < x6_2.size + 1) = False := eq_false (Nat.not_lt.2 c15)
                    by_cases c16 : (x6_2 ++ (⟨#[124]⟩ : ByteArray)).size + (rdOf ByteArray.empty l1 x7_2).size ≤ 9223372036854775807
                    · rw [if_pos c16] at H
                      have c16b0 := eq_true c16
                      have c16b1 : decide ((x6_2 ++ (⟨#[124]⟩ : ByteArray)).size + (rdOf ByteArray.empty l1 x7_2).size ≤ 9223372036854775807) = true := decide_eq_true c16
                      try have c16b2 : (9223372036854775807 < (x6_2 ++ (⟨#[124]⟩ : ByteArray)).size + (rdOf ByteArray.empty l1 x7_2).size) = False := eq_false (Nat.not_lt.2 c16)
                      try have c16b3 : (9223372036854775807 < x6_2.size + 1 + (rdOf ByteArray.empty l1 x7_2).size) = False := by have h_ := c16b2; simp only [ByteArray.size_append] at h_; exact h_
                      have H' := Aside0.mk H
                      clear H
                      have p200 : 0 ≤ (x7_2 : Int) := of_decide_eq_true (by first | (with_reducible assumption) | assumption)
                      have q200 : x7_2 < (l1.length : Int) := of_decide_eq_true (by first | (with_reducible assumption) | assumption)
                      obtain ⟨ad200, e200, hx200_0⟩ := Kd.at_string HR1.out x7_2 p200 q200
                      cases e200
                      replace hx200_0 := (HB.out.cell (World.block_lt_of_cell? w _ hx200_0)).trans hx200_0
                      replace p200 := eq_true p200
                      replace q200 := eq_true q200
                      go_wp2_with (first | ((with_reducible refine gate_callee (f := 30) rfl ?_); refine goesL_ (some 38) rfl rfl Tryd.func30 (by kernel_rfl) rfl #[.string (rdOf ByteArray.empty l1 x7_2), .int .i64 16] rfl (by (try simp only [List.map_toArray, List.map_cons, List.map_nil]); first | done | rfl | (simp only [List.length_drop, List.length_take]; rfl)) ?_; (with_reducible refine (cambistref02_part.calls k2 (rdOf ByteArray.empty l1 x7_2) 16 true _ ?side1 A13.out).mono ?_); (case side1 => exact Glob.below HG.out (by repeat (first | (with_reducible first | exact HB.out | apply below_alloc | apply pw_below_drewN | apply below_drew1) | exact HB.out))); rintro e w' ⟨rfl, ⟨nd, rfl⟩⟩; refine ⟨_, rfl, ?_⟩; have p202 : 0 ≤ (x7_2 : Int) := of_decide_eq_true (by first | (with_reducible assumption) | assumption); have q202 : x7_2 < (l1.length : Int) := of_decide_eq_true (by first | (with_reducible assumption) | assumption); obtain ⟨ad202, e202, hx202_0⟩ := Kd.at_string HR1.out x7_2 p202 q202; obtain rfl : ad200 = ad202 := (by injection e202); replace hx202_0 := (HB.out.cell (World.block_lt_of_cell? w _ hx202_0)).trans hx202_0; replace p202 := eq_true p202; replace q202 := eq_true q202))
                      go_roundg k2
                      case measure => have := HJ2.out; have := HK2.out; omega
                      case rel => exact ⟨((x6_2 ++ (⟨#[124]⟩ : ByteArray)) ++ (rdOf ByteArray.empty l1 x7_2)), (wrap64 (x7_2 + 1)), (by first | rfl | (simp; done) | (simp [*]; done)), (by first | rfl | (simp; done) | (simp [*]; done)), H', ⟨by have := HJ2.out; have := HK2.out; omega⟩, ⟨by repeat (first | (with_reducible first | exact HB.out | apply below_alloc | apply pw_below_drewN | apply below_drew1) | exact HB.out)⟩⟩
                    · rw [if_neg c16] at H
                      exact absurd H (by simp)
                  · rw [if_neg c15] at H
                    exact absurd H (by simp)
                · replace c14 := Bool.eq_false_iff.mpr c14
                  subst c14
                  have H1 : (some ((⟨#[]⟩ : ByteArray), 20)) = some (r1, r2) := by rw [if_neg (show ¬ (false = true) by decide)] at H; exact H
                  clear H
                  have H := H1
                  clear H1
                  simp only [Option.some.injEq, Prod.mk.injEq] at H
                  obtain ⟨rfl, rfl⟩ := H
                  have p200 : 0 ≤ (x7_2 : Int) := of_decide_eq_true (by first | (with_reducible assumption) | assumption)
                  have q200 : x7_2 < (l1.length : Int) := of_decide_eq_true (by first | (with_reducible assumption) | assumption)
                  obtain ⟨ad200, e200, hx200_0⟩ := Kd.at_string HR1.out x7_2 p200 q200
                  cases e200
                  replace hx200_0 := (HB.out.cell (World.block_lt_of_cell? w _ hx200_0)).trans hx200_0
                  replace p200 := eq_true p200
                  replace q200 := eq_true q200
                  go_wp2_with (first | ((with_reducible refine gate_callee (f := 30) rfl ?_); refine goesL_ (some 38) rfl rfl Tryd.func30 (by kernel_rfl) rfl #[.string (rdOf ByteArray.empty l1 x7_2), .int .i64 16] rfl (by (try simp only [List.map_toArray, List.map_cons, List.map_nil]); first | done | rfl | (simp only [List.length_drop, List.length_take]; rfl)) ?_; (with_reducible refine (cambistref02_part.calls k2 (rdOf ByteArray.empty l1 x7_2) 16 false _ ?side1 A13.out).mono ?_); (case side1 => exact Glob.below HG.out (by repeat (first | (with_reducible first | exact HB.out | apply below_alloc | apply pw_below_drewN | apply below_drew1) | exact HB.out))); rintro e w' ⟨rfl, ⟨nd, rfl⟩⟩; refine ⟨_, rfl, ?_⟩))
                  go_ret2
                  exact ⟨by first | rfl | (simp [errW_none, errW_some] <;> rfl) | (simp [*, errW_none, errW_some] <;> rfl), by repeat (first | (with_reducible first | exact HB.out | apply below_alloc | apply pw_below_drewN | apply below_drew1) | exact HB.out)⟩
              · rw [if_neg c12] at H
                exact absurd H (by simp)
            · rw [if_neg c11] at H
              have c11b0 : decide (x7_2 < (l1.length : Int)) = false := decide_eq_false c11
              clear c11
              simp only [Option.some.injEq, Prod.mk.injEq] at H
              obtain ⟨rfl, rfl⟩ := H
              go_wp2
              go_ret2
              exact ⟨by first | rfl | (simp [errW_none, errW_some] <;> rfl) | (simp [*, errW_none, errW_some] <;> rfl), by repeat (first | (with_reducible first | exact HB.out | apply below_alloc | apply pw_below_drewN | apply below_drew1) | exact HB.out)⟩

end Go.Proofs.YtalepbkdakjhdaaDoor.P
