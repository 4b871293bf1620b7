-- Laid by wip/tools/cprint.py of this claim's own repo (over the kit's print).
import Derived.Test.YtajgkmpjjdihdaaDoorPx0
import Derived.Test.YtajgkmpjjdihdaaDoorPx1
namespace Go.Proofs.YtajgkmpjjdihdaaDoor.P
open Go.RowKit Go.Proofs.YtajgkmpjjdihdaaDoor.E Go.Proofs.YtajgkmpjjdihdaaDoorW.PrintWords Go.Proofs.YtajgkmpjjdihdaaDoorW.PrintLast Go.Proofs.YtajgkmpjjdihdaaDoorW.PrintMore
attribute [local go_sem] max2_int min2_int max_two min_two max_three min_three max_four min_four   -- for this text's walks alone
set_option linter.unusedVariables false
set_option linter.unusedSimpArgs false

/-! ### cambistref01_Mul: function 17 -/
mutual
def cambistref01_Mul.j0 : Nat → Int → Int → Bool → Option (Int × Int)
  | 0, _, _, _ => none
  | k + 1, x6, x7, x8 => if x8 = true then (cambistref01_Mul.j1 k x6 x7 x8 (9223372036854775807 + 1)) else (cambistref01_Mul.j1 k x6 x7 x8 9223372036854775807)
def cambistref01_Mul.j1 : Nat → Int → Int → Bool → Int → Option (Int × Int)
  | 0, _, _, _, _ => none
  | k + 1, x6, x7, x8, x9 => if x6 > 0 then (if x6 = 0 then (none) else (cambistref01_Mul.j2 k x6 x7 x8 (decide (x7 > (IntKind.u64.wrap (Int.tdiv x9 x6)))))) else (cambistref01_Mul.j2 k x6 x7 x8 false)
def cambistref01_Mul.j2 : Nat → Int → Int → Bool → Bool → Option (Int × Int)
  | 0, _, _, _, _ => none
  | k + 1, x6, x7, x8, x40 => if x40 = true then (some (0, 10)) else (if x8 = true then (some (wrap64 (IntKind.u64.wrap (-(IntKind.u64.wrap (x6 * x7)))), 0)) else (some (wrap64 (IntKind.u64.wrap (x6 * x7)), 0)))
end
def cambistref01_Mul.f (k : Nat) (a0 : Int) (a1 : Int) : Option (Int × Int) := (cambistref01_size.f a0).bind fun t122 => ((cambistref01_size.f a1).bind fun t123 => (if a0 < 0 then (if a1 > 0 then (cambistref01_Mul.j0 k t122 t123 true) else (if a0 > 0 then (cambistref01_Mul.j0 k t122 t123 (decide (a1 < 0))) else (cambistref01_Mul.j0 k t122 t123 false))) else (if a0 > 0 then (cambistref01_Mul.j0 k t122 t123 (decide (a1 < 0))) else (cambistref01_Mul.j0 k t122 t123 false))))
theorem cambistref01_Mul.mono_l : ∀ k, (∀ y0 y1 y2, LeO (cambistref01_Mul.j0 k y0 y1 y2) (cambistref01_Mul.j0 (k + 1) y0 y1 y2)) ∧ (∀ y0 y1 y2 y3, LeO (cambistref01_Mul.j1 k y0 y1 y2 y3) (cambistref01_Mul.j1 (k + 1) y0 y1 y2 y3)) ∧ (∀ y0 y1 y2 y3, LeO (cambistref01_Mul.j2 k y0 y1 y2 y3) (cambistref01_Mul.j2 (k + 1) y0 y1 y2 y3))
  | 0 => ⟨fun _ _ _ r h => by simp [cambistref01_Mul.j0] at h, fun _ _ _ _ r h => by simp [cambistref01_Mul.j1] at h, fun _ _ _ _ r h => by simp [cambistref01_Mul.j2] at h⟩
  | k + 1 => by
    obtain ⟨ih0, ih1, ih2⟩ := cambistref01_Mul.mono_l k
    refine ⟨?_, ?_, ?_⟩
    · intro y0 y1 y2
      unfold cambistref01_Mul.j0
      repeat' first
      | (with_reducible exact ih0 _ _ _)
      | (with_reducible exact ih1 _ _ _ _)
      | (with_reducible exact ih2 _ _ _ _)
      | (with_reducible exact LeO.refl _)
      | (with_reducible exact LeO.none _)
      | (with_reducible refine LeO.ite ?_ ?_)
      | (with_reducible refine LeO.bind ?_ (fun _ => ?_))
      | exact ih0 _ _ _
      | exact ih1 _ _ _ _
      | exact ih2 _ _ _ _
      | exact LeO.none _
      | refine LeO.ite ?_ ?_
      | refine LeO.bind ?_ (fun _ => ?_)
    · intro y0 y1 y2 y3
      unfold cambistref01_Mul.j1
      repeat' first
      | (with_reducible exact ih0 _ _ _)
      | (with_reducible exact ih1 _ _ _ _)
      | (with_reducible exact ih2 _ _ _ _)
      | (with_reducible exact LeO.refl _)
      | (with_reducible exact LeO.none _)
      | (with_reducible refine LeO.ite ?_ ?_)
      | (with_reducible refine LeO.bind ?_ (fun _ => ?_))
      | exact ih0 _ _ _
      | exact ih1 _ _ _ _
      | exact ih2 _ _ _ _
      | exact LeO.none _
      | refine LeO.ite ?_ ?_
      | refine LeO.bind ?_ (fun _ => ?_)
    · intro y0 y1 y2 y3
      unfold cambistref01_Mul.j2
      repeat' first
      | (with_reducible exact ih0 _ _ _)
      | (with_reducible exact ih1 _ _ _ _)
      | (with_reducible exact ih2 _ _ _ _)
      | (with_reducible exact LeO.refl _)
      | (with_reducible exact LeO.none _)
      | (with_reducible refine LeO.ite ?_ ?_)
      | (with_reducible refine LeO.bind ?_ (fun _ => ?_))
      | exact ih0 _ _ _
      | exact ih1 _ _ _ _
      | exact ih2 _ _ _ _
      | exact LeO.none _
      | refine LeO.ite ?_ ?_
      | refine LeO.bind ?_ (fun _ => ?_)
theorem cambistref01_Mul.mono : ∀ a0 a1 k, LeO (cambistref01_Mul.f k a0 a1) (cambistref01_Mul.f (k + 1) a0 a1) := by
  intro a0 a1 k
  obtain ⟨ih0, ih1, ih2⟩ := cambistref01_Mul.mono_l k
  unfold cambistref01_Mul.f
  repeat' first
      | (with_reducible exact ih0 _ _ _)
      | (with_reducible exact ih1 _ _ _ _)
      | (with_reducible exact ih2 _ _ _ _)
      | (with_reducible exact LeO.refl _)
      | (with_reducible exact LeO.none _)
      | (with_reducible refine LeO.ite ?_ ?_)
      | (with_reducible refine LeO.bind ?_ (fun _ => ?_))
      | exact ih0 _ _ _
      | exact ih1 _ _ _ _
      | exact ih2 _ _ _ _
      | exact LeO.none _
      | refine LeO.ite ?_ ?_
      | refine LeO.bind ?_ (fun _ => ?_)
set_option maxHeartbeats 8000000 in
set_option maxRecDepth 100000 in
theorem cambistref01_Mul.calls (k : Nat) (a0 : Int) (a1 : Int) (r1 : Int) (r2 : Int) (w : World) (hG : Glob w) (h : cambistref01_Mul.f k a0 a1 = some (r1, r2)) :
    Calls Tryd.prog 17 #[.int .i64 a0, .int .i64 a1] w fun e w' => e = .returned (.tuple #[.int .i64 r1, .int .i64 r2]) ∧ Drawn0 w w' := by
  have HG := Aside0.mk hG
  clear hG
  have H : ((cambistref01_size.f a0).bind fun t122 => ((cambistref01_size.f a1).bind fun t123 => (if a0 < 0 then (if a1 > 0 then (cambistref01_Mul.j0 k t122 t123 true) else (if a0 > 0 then (cambistref01_Mul.j0 k t122 t123 (decide (a1 < 0))) else (cambistref01_Mul.j0 k t122 t123 false))) else (if a0 > 0 then (cambistref01_Mul.j0 k t122 t123 (decide (a1 < 0))) else (cambistref01_Mul.j0 k t122 t123 false))))) = some (r1, r2) := h
  clear h
  replace H := Option.bind_eq_some_iff.mp H
  obtain ⟨t122, A30, H⟩ := H
  replace H : ((cambistref01_size.f a1).bind fun t123 => (if a0 < 0 then (if a1 > 0 then (cambistref01_Mul.j0 k t122 t123 true) else (if a0 > 0 then (cambistref01_Mul.j0 k t122 t123 (decide (a1 < 0))) else (cambistref01_Mul.j0 k t122 t123 false))) else (if a0 > 0 then (cambistref01_Mul.j0 k t122 t123 (decide (a1 < 0))) else (cambistref01_Mul.j0 k t122 t123 false)))) = some (r1, r2) := H
  have A3 := Aside0.mk A30
  clear A30
  replace H := Option.bind_eq_some_iff.mp H
  obtain ⟨t123, A40, H⟩ := H
  replace H : (if a0 < 0 then (if a1 > 0 then (cambistref01_Mul.j0 k t122 t123 true) else (if a0 > 0 then (cambistref01_Mul.j0 k t122 t123 (decide (a1 < 0))) else (cambistref01_Mul.j0 k t122 t123 false))) else (if a0 > 0 then (cambistref01_Mul.j0 k t122 t123 (decide (a1 < 0))) else (cambistref01_Mul.j0 k t122 t123 false))) = some (r1, r2) := H
  have A4 := Aside0.mk A40
  clear A40
  have HC5 := Aside0.mk H
  clear H
  go_enter Tryd.func17, Tryd.ntmps17
  go_upto_region 3 with (first | ((with_reducible refine gate_callee (f := 26) rfl ?_); refine goesL_ (some 12) rfl rfl Tryd.func26 (by kernel_rfl) rfl #[.int .i64 a0] rfl (by (try simp only [List.map_toArray, List.map_cons, List.map_nil]); first | done | rfl | (simp only [List.length_drop, List.length_take]; rfl)) ?_; (with_reducible refine (cambistref01_size.calls a0 t122 _ ?side1 A3.out).mono ?_); (case side1 => (repeat (first | exact HG.out | apply Glob.drewN | apply Glob.drew))); rintro e w' ⟨rfl, ⟨nd, rfl⟩⟩; refine ⟨_, rfl, ?_⟩) | ((with_reducible refine gate_callee (f := 26) rfl ?_); refine goesL_ (some 14) rfl rfl Tryd.func26 (by kernel_rfl) rfl #[.int .i64 a1] rfl (by (try simp only [List.map_toArray, List.map_cons, List.map_nil]); first | done | rfl | (simp only [List.length_drop, List.length_take]; rfl)) ?_; (with_reducible refine (cambistref01_size.calls a1 t123 _ ?side1 A4.out).mono ?_); (case side1 => (repeat (first | exact HG.out | apply Glob.drewN | apply Glob.drew))); rintro e w' ⟨rfl, ⟨nd, rfl⟩⟩; refine ⟨_, rfl, ?_⟩))
  (try simp only [Act.put, List.setIfInBounds_toArray, List.set_cons_zero, List.set_cons_succ])
  go_cut [8] (fun v8 wc => ∃ (kq : Nat) (x8_4 : Bool), v8 = .bool x8_4 ∧ Aside0 (cambistref01_Mul.j0 kq t122 t123 x8_4 = some (r1, r2)) ∧ Aside0 (kq ≤ k) ∧ Drawn0 w wc)
  case first =>
    have H := HC5.out
    clear HC5
    by_cases c6 : a0 < 0
    · rw [if_pos c6] at H
      have c6b0 : decide (a0 < 0) = true := decide_eq_true c6
      clear c6
      (first | rw [c6b0] | (simp only [i64_w, i32_w]; rw [c6b0]) | skip)
      by_cases c7 : a1 > 0
      · rw [if_pos c7] at H
        have c7b0 : decide (0 < a1) = true := decide_eq_true c7
        clear c7
        have H' := Aside0.mk H
        clear H
        go_wp2
        go_meet
        case rel => exact ⟨_, (true), (by first | rfl | (simp; done) | (simp [*]; done)), H', ⟨by first | omega | exact Nat.le_refl _⟩, by repeat (first | exact Drawn0.refl _ | apply Drawn0.step)⟩
      · rw [if_neg c7] at H
        have c7b0 : decide (0 < a1) = false := decide_eq_false c7
        clear c7
        by_cases c8 : a0 > 0
        · rw [if_pos c8] at H
          have c8b0 : decide (0 < a0) = true := decide_eq_true c8
          clear c8
          have H' := Aside0.mk H
          clear H
          go_wp2
          go_meet
          case rel => exact ⟨_, (decide (a1 < 0)), (by first | rfl | (simp; done) | (simp [*]; done)), H', ⟨by first | omega | exact Nat.le_refl _⟩, by repeat (first | exact Drawn0.refl _ | apply Drawn0.step)⟩
        · rw [if_neg c8] at H
          have c8b0 : decide (0 < a0) = false := decide_eq_false c8
          clear c8
          have H' := Aside0.mk H
          clear H
          go_wp2
          go_meet
          case rel => exact ⟨_, (false), (by first | rfl | (simp; done) | (simp [*]; done)), H', ⟨by first | omega | exact Nat.le_refl _⟩, by repeat (first | exact Drawn0.refl _ | apply Drawn0.step)⟩
    · rw [if_neg c6] at H
      have c6b0 : decide (a0 < 0) = false := decide_eq_false c6
      clear c6
      (first | rw [c6b0] | (simp only [i64_w, i32_w]; rw [c6b0]) | skip)
      by_cases c9 : a0 > 0
      · rw [if_pos c9] at H
        have c9b0 : decide (0 < a0) = true := decide_eq_true c9
        clear c9
        have H' := Aside0.mk H
        clear H
        go_wp2
        go_meet
        case rel => exact ⟨_, (decide (a1 < 0)), (by first | rfl | (simp; done) | (simp [*]; done)), H', ⟨by first | omega | exact Nat.le_refl _⟩, by repeat (first | exact Drawn0.refl _ | apply Drawn0.step)⟩
      · rw [if_neg c9] at H
        have c9b0 : decide (0 < a0) = false := decide_eq_false c9
        clear c9
        have H' := Aside0.mk H
        clear H
        go_wp2
        go_meet
        case rel => exact ⟨_, (false), (by first | rfl | (simp; done) | (simp [*]; done)), H', ⟨by first | omega | exact Nat.le_refl _⟩, by repeat (first | exact Drawn0.refl _ | apply Drawn0.step)⟩
  case rest =>
    clear HC5
    try clear c1
    try clear c2
    try clear p2
    try clear c6
    try clear c6b0
    try clear c7
    try clear c7b0
    try clear c8
    try clear c8b0
    try clear c9
    try clear c9b0
    obtain ⟨kq, x8_4, rfl, HA, HJ4, ⟨mc4, rfl⟩⟩ := hcut
    cases kq with
    | zero => exact absurd HA.out (by simp [cambistref01_Mul.j0])
    | succ kj4 =>
      have H := HA.out
      clear HA
      simp only [cambistref01_Mul.j0] at H
      have HC10 := Aside0.mk H
      clear H
      go_upto_if 29 with (fail)
      go_cut [9] (fun v9 wc => ∃ (kq : Nat) (x9_9 : Int), v9 = .int .u64 x9_9 ∧ Aside0 (cambistref01_Mul.j1 kq t122 t123 x8_4 x9_9 = some (r1, r2)) ∧ Aside0 (kq ≤ kj4) ∧ Drawn0 w wc)
      case first =>
        have H := HC10.out
        clear HC10
        by_cases c11 : x8_4 = true
        · subst c11
          have H1 : (cambistref01_Mul.j1 kj4 t122 t123 true (9223372036854775807 + 1)) = some (r1, r2) := by rw [if_pos rfl] at H; exact H
          clear H
          have H := H1
          clear H1
          have H' := Aside0.mk H
          clear H
          go_wp2
          go_meet
          case rel => exact ⟨_, (9223372036854775807 + 1), (by first | rfl | (simp; done) | (simp [*]; done)), H', ⟨by have := HJ4.out; first | omega | exact Nat.le_refl _⟩, by repeat (first | exact Drawn0.refl _ | apply Drawn0.step)⟩
        · replace c11 := Bool.eq_false_iff.mpr c11
          subst c11
          have H1 : (cambistref01_Mul.j1 kj4 t122 t123 false 9223372036854775807) = some (r1, r2) := by rw [if_neg (show ¬ (false = true) by decide)] at H; exact H
          clear H
          have H := H1
          clear H1
          have H' := Aside0.mk H
          clear H
          go_wp2
          go_meet
          case rel => exact ⟨_, (9223372036854775807), (by first | rfl | (simp; done) | (simp [*]; done)), H', ⟨by have := HJ4.out; first | omega | exact Nat.le_refl _⟩, by repeat (first | exact Drawn0.refl _ | apply Drawn0.step)⟩
      case rest =>
        clear HC10
        try clear c1
        try clear c2
        try clear p2
        try clear c4
        try clear c6
        try clear c6b0
        try clear c7
        try clear c7b0
        try clear c8
        try clear c8b0
        try clear c9
        try clear c9b0
        try clear c11
        try clear p2
        obtain ⟨kq, x9_9, rfl, HA, HJ9, ⟨mc9, rfl⟩⟩ := hcut
        cases kq with
        | zero => exact absurd HA.out (by simp [cambistref01_Mul.j1])
        | succ kj9 =>
          have H := HA.out
          clear HA
          simp only [cambistref01_Mul.j1] at H
          have HC12 := Aside0.mk H
          clear H
          go_upto_region 7 with (fail)
          go_cut [40] (fun v40 wc => ∃ (kq : Nat) (x40_11 : Bool), v40 = .bool x40_11 ∧ Aside0 (cambistref01_Mul.j2 kq t122 t123 x8_4 x40_11 = some (r1, r2)) ∧ Aside0 (kq ≤ kj9) ∧ Drawn0 w wc)
          case first =>
            have H := HC12.out
            clear HC12
            by_cases c13 : t122 > 0
            · rw [if_pos c13] at H
              have c13b0 : decide (0 < t122) = true := decide_eq_true c13
              clear c13
              (first | rw [c13b0] | (simp only [i64_w, i32_w]; rw [c13b0]) | skip)
              by_cases c14 : t122 = 0
              · rw [if_pos c14] at H
                exact absurd H (by simp)
              · rw [if_neg c14] at H
                have c14b0 : (t122 == 0) = false := beq_eq_false_iff_ne.mpr c14
                have c14b1 : (t122 != 0) = true := bne_iff_ne.mpr c14
                have H' := Aside0.mk H
                clear H
                go_wp2
                go_meet
                case rel => exact ⟨_, (decide (t123 > (IntKind.u64.wrap (Int.tdiv x9_9 t122)))), (by first | rfl | (simp; done) | (simp [*]; done)), H', ⟨by have := HJ4.out; have := HJ9.out; first | omega | exact Nat.le_refl _⟩, by repeat (first | exact Drawn0.refl _ | apply Drawn0.step)⟩
            · rw [if_neg c13] at H
              have c13b0 : decide (0 < t122) = false := decide_eq_false c13
              clear c13
              (first | rw [c13b0] | (simp only [i64_w, i32_w]; rw [c13b0]) | skip)
              have H' := Aside0.mk H
              clear H
              go_wp2
              go_meet
              case rel => exact ⟨_, (false), (by first | rfl | (simp; done) | (simp [*]; done)), H', ⟨by have := HJ4.out; have := HJ9.out; first | omega | exact Nat.le_refl _⟩, by repeat (first | exact Drawn0.refl _ | apply Drawn0.step)⟩
          case rest =>
            clear HC12
            try clear c1
            try clear c2
            try clear p2
            try clear c4
            try clear c6
            try clear c6b0
            try clear c7
            try clear c7b0
            try clear c8
            try clear c8b0
            try clear c9
            try clear c9b0
            try clear c11
            try clear c13
            try clear c13b0
            try clear c14
            try clear c14b0
            try clear c14b1
            try clear p2
            obtain ⟨kq, x40_11, rfl, HA, HJ11, ⟨mc11, rfl⟩⟩ := hcut
            cases kq with
            | zero => exact absurd HA.out (by simp [cambistref01_Mul.j2])
            | succ kj11 =>
              have H := HA.out
              clear HA
              simp only [cambistref01_Mul.j2] at H
              by_cases c15 : x40_11 = true
              · subst c15
                have H1 : (some (0, 10)) = some (r1, r2) := by rw [if_pos rfl] at H; exact H
                clear H
                have H := H1
                clear H1
                simp only [Option.some.injEq, Prod.mk.injEq] at H
                obtain ⟨rfl, rfl⟩ := H
                go_wp2
                go_ret2
                exact ⟨by first | rfl | (simp; done) | (simp [*]; done), by repeat (first | exact Drawn0.refl _ | apply Drawn0.step)⟩
              · replace c15 := Bool.eq_false_iff.mpr c15
                subst c15
                have H1 : (if x8_4 = true then (some (wrap64 (IntKind.u64.wrap (-(IntKind.u64.wrap (t122 * t123)))), 0)) else (some (wrap64 (IntKind.u64.wrap (t122 * t123)), 0))) = some (r1, r2) := by rw [if_neg (show ¬ (false = true) by decide)] at H; exact H
                clear H
                have H := H1
                clear H1
                by_cases c16 : x8_4 = true
                · subst c16
                  have H1 : (some (wrap64 (IntKind.u64.wrap (-(IntKind.u64.wrap (t122 * t123)))), 0)) = some (r1, r2) := by rw [if_pos rfl] at H; exact H
                  clear H
                  have H := H1
                  clear H1
                  simp only [Option.some.injEq, Prod.mk.injEq] at H
                  obtain ⟨rfl, rfl⟩ := H
                  go_wp2
                  go_ret2
                  exact ⟨by first | rfl | (simp; done) | (simp [*]; done), by repeat (first | exact Drawn0.refl _ | apply Drawn0.step)⟩
                · replace c16 := Bool.eq_false_iff.mpr c16
                  subst c16
                  have H1 : (some (wrap64 (IntKind.u64.wrap (t122 * t123)), 0)) = some (r1, r2) := by rw [if_neg (show ¬ (false = true) by decide)] at H; exact H
                  clear H
                  have H := H1
                  clear H1
                  simp only [Option.some.injEq, Prod.mk.injEq] at H
                  obtain ⟨rfl, rfl⟩ := H
                  go_wp2
                  go_ret2
                  exact ⟨by first | rfl | (simp; done) | (simp [*]; done), by repeat (first | exact Drawn0.refl _ | apply Drawn0.step)⟩

/-! ### cambistlaw01_CoinTells: function 4 -/
def cambistlaw01_CoinTells.f (k : Nat) (a0 : Int) (a1 : Int) : Option (Bool) := (cambistlaw01_awake.f k).bind fun t124 => ((coin_Add.f a0 a1).bind fun bt125 => ((cambistref01_Add.f a0 a1).bind fun bt127 => ((coin_Sub.f a0 a1).bind fun bt129 => ((cambistref01_Sub.f a0 a1).bind fun bt131 => ((coin_Mul.f k a0 a1).bind fun bt133 => ((cambistref01_Mul.f k a0 a1).bind fun bt135 => (if t124 = true then (if bt125.1 = bt127.1 then (if bt125.2 = bt127.2 then (if bt129.1 = bt131.1 then (if bt129.2 = bt131.2 then (if bt133.1 = bt135.1 then (some (bt133.2 == bt135.2)) else (none)) else (none)) else (none)) else (none)) else (none)) else (none))))))))
theorem cambistlaw01_CoinTells.mono : ∀ a0 a1 k, LeO (cambistlaw01_CoinTells.f k a0 a1) (cambistlaw01_CoinTells.f (k + 1) a0 a1) := by
  intro a0 a1 k
  unfold cambistlaw01_CoinTells.f
  repeat' first
      | (with_reducible exact cambistlaw01_awake.mono _)
      | (with_reducible exact cambistref01_Mul.mono _ _ _)
      | (with_reducible exact coin_Mul.mono _ _ _)
      | (with_reducible exact LeO.refl _)
      | (with_reducible exact LeO.none _)
      | (with_reducible refine LeO.ite ?_ ?_)
      | (with_reducible refine LeO.bind ?_ (fun _ => ?_))
      | exact cambistlaw01_awake.mono _
      | exact cambistref01_Mul.mono _ _ _
      | exact coin_Mul.mono _ _ _
      | exact LeO.none _
      | refine LeO.ite ?_ ?_
      | refine LeO.bind ?_ (fun _ => ?_)
set_option maxHeartbeats 8000000 in
set_option maxRecDepth 100000 in
theorem cambistlaw01_CoinTells.calls (k : Nat) (a0 : Int) (a1 : Int) (r : Bool) (w : World) (hG : Glob w) (h : cambistlaw01_CoinTells.f k a0 a1 = some r) :
    Calls Tryd.prog 4 #[.int .i64 a0, .int .i64 a1] w fun e w' => e = .returned (.bool r) ∧ Below w.heap.size w w' := by
  have HG := Aside0.mk hG
  clear hG
  have HB := Aside0.mk (Below.refl w.heap.size w)
  have H : ((cambistlaw01_awake.f k).bind fun t124 => ((coin_Add.f a0 a1).bind fun bt125 => ((cambistref01_Add.f a0 a1).bind fun bt127 => ((coin_Sub.f a0 a1).bind fun bt129 => ((cambistref01_Sub.f a0 a1).bind fun bt131 => ((coin_Mul.f k a0 a1).bind fun bt133 => ((cambistref01_Mul.f k a0 a1).bind fun bt135 => (if t124 = true then (if bt125.1 = bt127.1 then (if bt125.2 = bt127.2 then (if bt129.1 = bt131.1 then (if bt129.2 = bt131.2 then (if bt133.1 = bt135.1 then (some (bt133.2 == bt135.2)) else (none)) else (none)) else (none)) else (none)) else (none)) else (none))))))))) = some r := h
  clear h
  replace H := Option.bind_eq_some_iff.mp H
  obtain ⟨t124, A30, H⟩ := H
  replace H : ((coin_Add.f a0 a1).bind fun bt125 => ((cambistref01_Add.f a0 a1).bind fun bt127 => ((coin_Sub.f a0 a1).bind fun bt129 => ((cambistref01_Sub.f a0 a1).bind fun bt131 => ((coin_Mul.f k a0 a1).bind fun bt133 => ((cambistref01_Mul.f k a0 a1).bind fun bt135 => (if t124 = true then (if bt125.1 = bt127.1 then (if bt125.2 = bt127.2 then (if bt129.1 = bt131.1 then (if bt129.2 = bt131.2 then (if bt133.1 = bt135.1 then (some (bt133.2 == bt135.2)) else (none)) else (none)) else (none)) else (none)) else (none)) else (none)))))))) = some r := H
  have A3 := Aside0.mk A30
  clear A30
  replace H := Option.bind_eq_some_iff.mp H
  obtain ⟨⟨t125, t126⟩, A40, H⟩ := H
  replace H : ((cambistref01_Add.f a0 a1).bind fun bt127 => ((coin_Sub.f a0 a1).bind fun bt129 => ((cambistref01_Sub.f a0 a1).bind fun bt131 => ((coin_Mul.f k a0 a1).bind fun bt133 => ((cambistref01_Mul.f k a0 a1).bind fun bt135 => (if t124 = true then (if t125 = bt127.1 then (if t126 = bt127.2 then (if bt129.1 = bt131.1 then (if bt129.2 = bt131.2 then (if bt133.1 = bt135.1 then (some (bt133.2 == bt135.2)) else (none)) else (none)) else (none)) else (none)) else (none)) else (none))))))) = some r := H
  have A4 := Aside0.mk A40
  clear A40
  replace H := Option.bind_eq_some_iff.mp H
  obtain ⟨⟨t127, t128⟩, A50, H⟩ := H
  replace H : ((coin_Sub.f a0 a1).bind fun bt129 => ((cambistref01_Sub.f a0 a1).bind fun bt131 => ((coin_Mul.f k a0 a1).bind fun bt133 => ((cambistref01_Mul.f k a0 a1).bind fun bt135 => (if t124 = true then (if t125 = t127 then (if t126 = t128 then (if bt129.1 = bt131.1 then (if bt129.2 = bt131.2 then (if bt133.1 = bt135.1 then (some (bt133.2 == bt135.2)) else (none)) else (none)) else (none)) else (none)) else (none)) else (none)))))) = some r := H
  have A5 := Aside0.mk A50
  clear A50
  replace H := Option.bind_eq_some_iff.mp H
  obtain ⟨⟨t129, t130⟩, A60, H⟩ := H
  replace H : ((cambistref01_Sub.f a0 a1).bind fun bt131 => ((coin_Mul.f k a0 a1).bind fun bt133 => ((cambistref01_Mul.f k a0 a1).bind fun bt135 => (if t124 = true then (if t125 = t127 then (if t126 = t128 then (if t129 = bt131.1 then (if t130 = bt131.2 then (if bt133.1 = bt135.1 then (some (bt133.2 == bt135.2)) else (none)) else (none)) else (none)) else (none)) else (none)) else (none))))) = some r := H
  have A6 := Aside0.mk A60
  clear A60
  replace H := Option.bind_eq_some_iff.mp H
  obtain ⟨⟨t131, t132⟩, A70, H⟩ := H
  replace H : ((coin_Mul.f k a0 a1).bind fun bt133 => ((cambistref01_Mul.f k a0 a1).bind fun bt135 => (if t124 = true then (if t125 = t127 then (if t126 = t128 then (if t129 = t131 then (if t130 = t132 then (if bt133.1 = bt135.1 then (some (bt133.2 == bt135.2)) else (none)) else (none)) else (none)) else (none)) else (none)) else (none)))) = some r := H
  have A7 := Aside0.mk A70
  clear A70
  replace H := Option.bind_eq_some_iff.mp H
  obtain ⟨⟨t133, t134⟩, A80, H⟩ := H
  replace H : ((cambistref01_Mul.f k a0 a1).bind fun bt135 => (if t124 = true then (if t125 = t127 then (if t126 = t128 then (if t129 = t131 then (if t130 = t132 then (if t133 = bt135.1 then (some (t134 == bt135.2)) else (none)) else (none)) else (none)) else (none)) else (none)) else (none))) = some r := H
  have A8 := Aside0.mk A80
  clear A80
  replace H := Option.bind_eq_some_iff.mp H
  obtain ⟨⟨t135, t136⟩, A90, H⟩ := H
  replace H : (if t124 = true then (if t125 = t127 then (if t126 = t128 then (if t129 = t131 then (if t130 = t132 then (if t133 = t135 then (some (t134 == t136)) else (none)) else (none)) else (none)) else (none)) else (none)) else (none)) = some r := H
  have A9 := Aside0.mk A90
  clear A90
  by_cases c10 : t124 = true
  · subst c10
    have H1 : (if t125 = t127 then (if t126 = t128 then (if t129 = t131 then (if t130 = t132 then (if t133 = t135 then (some (t134 == t136)) else (none)) else (none)) else (none)) else (none)) else (none)) = some r := by rw [if_pos rfl] at H; exact H
    clear H
    have H := H1
    clear H1
    by_cases c11 : t125 = t127
    · rw [if_pos c11] at H
      have c11b0 : (t125 == t127) = true := beq_iff_eq.mpr c11
      have c11b1 : (t125 != t127) = false := bne_eq_false_iff_eq.mpr c11
      clear c11
      by_cases c12 : t126 = t128
      · rw [if_pos c12] at H
        have c12b0 : (t126 == t128) = true := beq_iff_eq.mpr c12
        have c12b1 : (t126 != t128) = false := bne_eq_false_iff_eq.mpr c12
        clear c12
        by_cases c13 : t129 = t131
        · rw [if_pos c13] at H
          have c13b0 : (t129 == t131) = true := beq_iff_eq.mpr c13
          have c13b1 : (t129 != t131) = false := bne_eq_false_iff_eq.mpr c13
          clear c13
          by_cases c14 : t130 = t132
          · rw [if_pos c14] at H
            have c14b0 : (t130 == t132) = true := beq_iff_eq.mpr c14
            have c14b1 : (t130 != t132) = false := bne_eq_false_iff_eq.mpr c14
            clear c14
            by_cases c15 : t133 = t135
            · rw [if_pos c15] at H
              have c15b0 : (t133 == t135) = true := beq_iff_eq.mpr c15
              have c15b1 : (t133 != t135) = false := bne_eq_false_iff_eq.mpr c15
              clear c15
              obtain rfl := Option.some.inj H
              go_enter Tryd.func4, Tryd.ntmps4
              go_wp2_with (first | ((with_reducible refine gate_callee (f := 11) rfl ?_); refine goesL_ (some 18) rfl rfl Tryd.func11 (by kernel_rfl) rfl #[] rfl (by (try simp only [List.map_toArray, List.map_cons, List.map_nil]); first | done | rfl | (simp only [List.length_drop, List.length_take]; rfl)) ?_; (with_reducible refine (cambistlaw01_awake.calls k  true _ ?side1 A3.out).mono ?_); (case side1 => exact Glob.below HG.out (by repeat (first | (with_reducible first | exact HB.out | apply below_alloc | apply pw_below_drewN | apply below_drew1) | exact HB.out))); rintro e w16 ⟨rfl, hb⟩; refine ⟨_, rfl, ?_⟩; have n0_ := Aside0.mk (below_step (by repeat (first | (with_reducible first | exact HB.out | apply below_alloc | apply pw_below_drewN | apply below_drew1) | exact HB.out)) hb); clear HB; have HB := n0_; clear n0_; (try clear hb); (try clear hb2); (try clear hk); (try clear hi)) | ((with_reducible refine gate_callee (f := 12) rfl ?_); refine goesL_ (some 22) rfl rfl Tryd.func12 (by kernel_rfl) rfl #[.int .i64 a0, .int .i64 a1] rfl (by (try simp only [List.map_toArray, List.map_cons, List.map_nil]); first | done | rfl | (simp only [List.length_drop, List.length_take]; rfl)) ?_; (with_reducible refine (coin_Add.calls a0 a1 t125 t126 _ ?side1 A4.out).mono ?_); (case side1 => exact Glob.below HG.out (by repeat (first | (with_reducible first | exact HB.out | apply below_alloc | apply pw_below_drewN | apply below_drew1) | exact HB.out))); rintro e w' ⟨rfl, ⟨nd, rfl⟩⟩; refine ⟨_, rfl, ?_⟩) | ((with_reducible refine gate_callee (f := 13) rfl ?_); refine goesL_ (some 28) rfl rfl Tryd.func13 (by kernel_rfl) rfl #[.int .i64 a0, .int .i64 a1] rfl (by (try simp only [List.map_toArray, List.map_cons, List.map_nil]); first | done | rfl | (simp only [List.length_drop, List.length_take]; rfl)) ?_; (with_reducible refine (cambistref01_Add.calls a0 a1 t127 t128 _ ?side1 A5.out).mono ?_); (case side1 => exact Glob.below HG.out (by repeat (first | (with_reducible first | exact HB.out | apply below_alloc | apply pw_below_drewN | apply below_drew1) | exact HB.out))); rintro e w' ⟨rfl, ⟨nd, rfl⟩⟩; refine ⟨_, rfl, ?_⟩) | ((with_reducible refine gate_callee (f := 14) rfl ?_); refine goesL_ (some 34) rfl rfl Tryd.func14 (by kernel_rfl) rfl #[.int .i64 a0, .int .i64 a1] rfl (by (try simp only [List.map_toArray, List.map_cons, List.map_nil]); first | done | rfl | (simp only [List.length_drop, List.length_take]; rfl)) ?_; (with_reducible refine (coin_Sub.calls a0 a1 t129 t130 _ ?side1 A6.out).mono ?_); (case side1 => exact Glob.below HG.out (by repeat (first | (with_reducible first | exact HB.out | apply below_alloc | apply pw_below_drewN | apply below_drew1) | exact HB.out))); rintro e w' ⟨rfl, ⟨nd, rfl⟩⟩; refine ⟨_, rfl, ?_⟩) | ((with_reducible refine gate_callee (f := 15) rfl ?_); refine goesL_ (some 40) rfl rfl Tryd.func15 (by kernel_rfl) rfl #[.int .i64 a0, .int .i64 a1] rfl (by (try simp only [List.map_toArray, List.map_cons, List.map_nil]); first | done | rfl | (simp only [List.length_drop, List.length_take]; rfl)) ?_; (with_reducible refine (cambistref01_Sub.calls a0 a1 t131 t132 _ ?side1 A7.out).mono ?_); (case side1 => exact Glob.below HG.out (by repeat (first | (with_reducible first | exact HB.out | apply below_alloc | apply pw_below_drewN | apply below_drew1) | exact HB.out))); rintro e w' ⟨rfl, ⟨nd, rfl⟩⟩; refine ⟨_, rfl, ?_⟩) | ((with_reducible refine gate_callee (f := 16) rfl ?_); refine goesL_ (some 46) rfl rfl Tryd.func16 (by kernel_rfl) rfl #[.int .i64 a0, .int .i64 a1] rfl (by (try simp only [List.map_toArray, List.map_cons, List.map_nil]); first | done | rfl | (simp only [List.length_drop, List.length_take]; rfl)) ?_; (with_reducible refine (coin_Mul.calls k a0 a1 t133 t134 _ ?side1 A8.out).mono ?_); (case side1 => exact Glob.below HG.out (by repeat (first | (with_reducible first | exact HB.out | apply below_alloc | apply pw_below_drewN | apply below_drew1) | exact HB.out))); rintro e w17 ⟨rfl, hb⟩; refine ⟨_, rfl, ?_⟩; have n0_ := Aside0.mk (below_step (by repeat (first | (with_reducible first | exact HB.out | apply below_alloc | apply pw_below_drewN | apply below_drew1) | exact HB.out)) hb); clear HB; have HB := n0_; clear n0_; (try clear hb); (try clear hb2); (try clear hk); (try clear hi)) | ((with_reducible refine gate_callee (f := 17) rfl ?_); refine goesL_ (some 52) rfl rfl Tryd.func17 (by kernel_rfl) rfl #[.int .i64 a0, .int .i64 a1] rfl (by (try simp only [List.map_toArray, List.map_cons, List.map_nil]); first | done | rfl | (simp only [List.length_drop, List.length_take]; rfl)) ?_; (with_reducible refine (cambistref01_Mul.calls k a0 a1 t135 t136 _ ?side1 A9.out).mono ?_); (case side1 => exact Glob.below HG.out (by repeat (first | (with_reducible first | exact HB.out | apply below_alloc | apply pw_below_drewN | apply below_drew1) | exact HB.out))); rintro e w' ⟨rfl, ⟨nd, rfl⟩⟩; refine ⟨_, rfl, ?_⟩))
              go_ret
              exact ⟨by first | rfl | (simp [errW_none, errW_some] <;> rfl) | (simp [*, errW_none, errW_some] <;> rfl), by repeat (first | (with_reducible first | exact HB.out | apply below_alloc | apply pw_below_drewN | apply below_drew1) | exact HB.out)⟩
            · rw [if_neg c15] at H
              exact absurd H (by simp)
          · rw [if_neg c14] at H
            exact absurd H (by simp)
        · rw [if_neg c13] at H
          exact absurd H (by simp)
      · rw [if_neg c12] at H
        exact absurd H (by simp)
    · rw [if_neg c11] at H
      exact absurd H (by simp)
  · replace c10 := Bool.eq_false_iff.mpr c10
    subst c10
    have H1 : (none) = some r := by rw [if_neg (show ¬ (false = true) by decide)] at H; exact H
    clear H
    have H := H1
    clear H1
    exact absurd H (by simp)

end Go.Proofs.YtajgkmpjjdihdaaDoor.P
