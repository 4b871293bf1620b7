-- Laid by wip/tools/cprint.py of this claim's own repo (over the kit's print).
import Derived.Test.YtajgkmpjjdihdaaDoorPx0
import Derived.Test.YtajgkmpjjdihdaaDoorPx1
import Derived.Test.YtajgkmpjjdihdaaDoorParse
import Derived.Test.YtajgkmpjjdihdaaDoorText
namespace Go.Proofs.YtajgkmpjjdihdaaDoor.P
open Go.RowKit Go.Proofs.YtajgkmpjjdihdaaDoor.E Go.Proofs.YtajgkmpjjdihdaaDoorW.PrintWords Go.Proofs.YtajgkmpjjdihdaaDoorW.PrintLast Go.Proofs.YtajgkmpjjdihdaaDoorW.PrintMore
attribute [local go_sem] max2_int min2_int max_two min_two max_three min_three max_four min_four   -- for this text's walks alone
set_option linter.unusedVariables false
set_option linter.unusedSimpArgs false

/-! ### cambistlaw01_CoinBack: function 7 -/
def cambistlaw01_CoinBack.f (k : Nat) (a0 : Int) (a1 : ByteArray) : Option (Bool) := (cambistlaw01_awake.f k).bind fun t179 => (if (a1.size : Int) > 50 then (some t179) else ((coin_Text.f a0).bind fun t180 => ((coin_Parse.f t180).bind fun bt181 => ((coin_Parse.f a1).bind fun bt183 => (if t179 = true then (if bt181.1 = a0 then (if bt181.2 = 0 then (if bt183.2 = 0 then ((coin_Text.f bt183.1).bind fun t185 => (if t185.toList = a1.toList then ((coin_Text.f a0).bind fun t186 => (some (decide ((t186.size : Int) ≤ 20)))) else (if bt183.2 = 11 then (if bt183.1 = 0 then ((coin_Text.f a0).bind fun t187 => (some (decide ((t187.size : Int) ≤ 20)))) else (none)) else (none)))) else (if bt183.2 = 11 then (if bt183.1 = 0 then ((coin_Text.f a0).bind fun t188 => (some (decide ((t188.size : Int) ≤ 20)))) else (none)) else (none))) else (none)) else (none)) else (none))))))
theorem cambistlaw01_CoinBack.mono : ∀ a0 a1 k, LeO (cambistlaw01_CoinBack.f k a0 a1) (cambistlaw01_CoinBack.f (k + 1) a0 a1) := by
  intro a0 a1 k
  unfold cambistlaw01_CoinBack.f
  repeat' first
      | (with_reducible exact cambistlaw01_awake.mono _)
      | (with_reducible exact LeO.refl _)
      | (with_reducible exact LeO.none _)
      | (with_reducible refine LeO.ite ?_ ?_)
      | (with_reducible refine LeO.bind ?_ (fun _ => ?_))
      | exact cambistlaw01_awake.mono _
      | exact LeO.none _
      | refine LeO.ite ?_ ?_
      | refine LeO.bind ?_ (fun _ => ?_)
set_option maxHeartbeats 8000000 in
set_option maxRecDepth 100000 in
theorem cambistlaw01_CoinBack.calls (k : Nat) (a0 : Int) (a1 : ByteArray) (r : Bool) (w : World) (hG : Glob w) (h : cambistlaw01_CoinBack.f k a0 a1 = some r) :
    Calls Tryd.prog 7 #[.int .i64 a0, .string a1] w fun e w' => e = .returned (.bool r) ∧ Below w.heap.size w w' := by
  have HG := Aside0.mk hG
  clear hG
  have HB := Aside0.mk (Below.refl w.heap.size w)
  have H : ((cambistlaw01_awake.f k).bind fun t179 => (if (a1.size : Int) > 50 then (some t179) else ((coin_Text.f a0).bind fun t180 => ((coin_Parse.f t180).bind fun bt181 => ((coin_Parse.f a1).bind fun bt183 => (if t179 = true then (if bt181.1 = a0 then (if bt181.2 = 0 then (if bt183.2 = 0 then ((coin_Text.f bt183.1).bind fun t185 => (if t185.toList = a1.toList then ((coin_Text.f a0).bind fun t186 => (some (decide ((t186.size : Int) ≤ 20)))) else (if bt183.2 = 11 then (if bt183.1 = 0 then ((coin_Text.f a0).bind fun t187 => (some (decide ((t187.size : Int) ≤ 20)))) else (none)) else (none)))) else (if bt183.2 = 11 then (if bt183.1 = 0 then ((coin_Text.f a0).bind fun t188 => (some (decide ((t188.size : Int) ≤ 20)))) else (none)) else (none))) else (none)) else (none)) else (none))))))) = some r := h
  clear h
  replace H := Option.bind_eq_some_iff.mp H
  obtain ⟨t179, A30, H⟩ := H
  replace H : (if (a1.size : Int) > 50 then (some t179) else ((coin_Text.f a0).bind fun t180 => ((coin_Parse.f t180).bind fun bt181 => ((coin_Parse.f a1).bind fun bt183 => (if t179 = true then (if bt181.1 = a0 then (if bt181.2 = 0 then (if bt183.2 = 0 then ((coin_Text.f bt183.1).bind fun t185 => (if t185.toList = a1.toList then ((coin_Text.f a0).bind fun t186 => (some (decide ((t186.size : Int) ≤ 20)))) else (if bt183.2 = 11 then (if bt183.1 = 0 then ((coin_Text.f a0).bind fun t187 => (some (decide ((t187.size : Int) ≤ 20)))) else (none)) else (none)))) else (if bt183.2 = 11 then (if bt183.1 = 0 then ((coin_Text.f a0).bind fun t188 => (some (decide ((t188.size : Int) ≤ 20)))) else (none)) else (none))) else (none)) else (none)) else (none)))))) = some r := H
  have A3 := Aside0.mk A30
  clear A30
  by_cases c4 : (a1.size : Int) > 50
  · rw [if_pos c4] at H
    have c4b0 : decide (50 < (a1.size : Int)) = true := decide_eq_true c4
    have c4b1 : decide (50 < a1.size) = true := decide_eq_true (by omega)
    clear c4
    obtain rfl := Option.some.inj H
    go_enter Tryd.func7, Tryd.ntmps7
    go_wp2_with (first | ((with_reducible refine gate_callee (f := 11) rfl ?_); refine goesL_ (some 10) rfl rfl Tryd.func11 (by kernel_rfl) rfl #[] rfl (by (try simp only [List.map_toArray, List.map_cons, List.map_nil]); first | done | rfl | (simp only [List.length_drop, List.length_take]; rfl)) ?_; (with_reducible refine (cambistlaw01_awake.calls k  t179 _ ?side1 A3.out).mono ?_); (case side1 => exact Glob.below HG.out (by repeat (first | (with_reducible first | exact HB.out | apply below_alloc | apply pw_below_drewN | apply below_drew1) | exact HB.out))); rintro e w5 ⟨rfl, hb⟩; refine ⟨_, rfl, ?_⟩; have n0_ := Aside0.mk (below_step (by repeat (first | (with_reducible first | exact HB.out | apply below_alloc | apply pw_below_drewN | apply below_drew1) | exact HB.out)) hb); clear HB; have HB := n0_; clear n0_; (try clear hb); (try clear hb2); (try clear hk); (try clear hi)))
    go_ret
    exact ⟨by first | rfl | (simp [errW_none, errW_some] <;> rfl) | (simp [*, errW_none, errW_some] <;> rfl), by repeat (first | (with_reducible first | exact HB.out | apply below_alloc | apply pw_below_drewN | apply below_drew1) | exact HB.out)⟩
  · rw [if_neg c4] at H
    have c4b0 : decide (50 < (a1.size : Int)) = false := decide_eq_false c4
    have c4b1 : decide (50 < a1.size) = false := decide_eq_false (by omega)
    clear c4
    replace H := Option.bind_eq_some_iff.mp H
    obtain ⟨t180, A60, H⟩ := H
    replace H : ((coin_Parse.f t180).bind fun bt181 => ((coin_Parse.f a1).bind fun bt183 => (if t179 = true then (if bt181.1 = a0 then (if bt181.2 = 0 then (if bt183.2 = 0 then ((coin_Text.f bt183.1).bind fun t185 => (if t185.toList = a1.toList then ((coin_Text.f a0).bind fun t186 => (some (decide ((t186.size : Int) ≤ 20)))) else (if bt183.2 = 11 then (if bt183.1 = 0 then ((coin_Text.f a0).bind fun t187 => (some (decide ((t187.size : Int) ≤ 20)))) else (none)) else (none)))) else (if bt183.2 = 11 then (if bt183.1 = 0 then ((coin_Text.f a0).bind fun t188 => (some (decide ((t188.size : Int) ≤ 20)))) else (none)) else (none))) else (none)) else (none)) else (none)))) = some r := H
    have A6 := Aside0.mk A60
    clear A60
    replace H := Option.bind_eq_some_iff.mp H
    obtain ⟨⟨t181, t182⟩, A70, H⟩ := H
    replace H : ((coin_Parse.f a1).bind fun bt183 => (if t179 = true then (if t181 = a0 then (if t182 = 0 then (if bt183.2 = 0 then ((coin_Text.f bt183.1).bind fun t185 => (if t185.toList = a1.toList then ((coin_Text.f a0).bind fun t186 => (some (decide ((t186.size : Int) ≤ 20)))) else (if bt183.2 = 11 then (if bt183.1 = 0 then ((coin_Text.f a0).bind fun t187 => (some (decide ((t187.size : Int) ≤ 20)))) else (none)) else (none)))) else (if bt183.2 = 11 then (if bt183.1 = 0 then ((coin_Text.f a0).bind fun t188 => (some (decide ((t188.size : Int) ≤ 20)))) else (none)) else (none))) else (none)) else (none)) else (none))) = some r := H
    have A7 := Aside0.mk A70
    clear A70
    replace H := Option.bind_eq_some_iff.mp H
    obtain ⟨⟨t183, t184⟩, A80, H⟩ := H
    replace H : (if t179 = true then (if t181 = a0 then (if t182 = 0 then (if t184 = 0 then ((coin_Text.f t183).bind fun t185 => (if t185.toList = a1.toList then ((coin_Text.f a0).bind fun t186 => (some (decide ((t186.size : Int) ≤ 20)))) else (if t184 = 11 then (if t183 = 0 then ((coin_Text.f a0).bind fun t187 => (some (decide ((t187.size : Int) ≤ 20)))) else (none)) else (none)))) else (if t184 = 11 then (if t183 = 0 then ((coin_Text.f a0).bind fun t188 => (some (decide ((t188.size : Int) ≤ 20)))) else (none)) else (none))) else (none)) else (none)) else (none)) = some r := H
    have A8 := Aside0.mk A80
    clear A80
    by_cases c9 : t179 = true
    · subst c9
      have H1 : (if t181 = a0 then (if t182 = 0 then (if t184 = 0 then ((coin_Text.f t183).bind fun t185 => (if t185.toList = a1.toList then ((coin_Text.f a0).bind fun t186 => (some (decide ((t186.size : Int) ≤ 20)))) else (if t184 = 11 then (if t183 = 0 then ((coin_Text.f a0).bind fun t187 => (some (decide ((t187.size : Int) ≤ 20)))) else (none)) else (none)))) else (if t184 = 11 then (if t183 = 0 then ((coin_Text.f a0).bind fun t188 => (some (decide ((t188.size : Int) ≤ 20)))) else (none)) else (none))) else (none)) else (none)) = some r := by rw [if_pos rfl] at H; exact H
      clear H
      have H := H1
      clear H1
      by_cases c10 : t181 = a0
      · rw [if_pos c10] at H
        have c10b0 : (t181 == a0) = true := beq_iff_eq.mpr c10
        have c10b1 : (t181 != a0) = false := bne_eq_false_iff_eq.mpr c10
        clear c10
        by_cases c11 : t182 = 0
        · rw [if_pos c11] at H
          have c11b0 : (t182 == 0) = true := beq_iff_eq.mpr c11
          have c11b1 : (t182 != 0) = false := bne_eq_false_iff_eq.mpr c11
          clear c11
          by_cases c12 : t184 = 0
          · rw [if_pos c12] at H
            have c12b0 : (t184 == 0) = true := beq_iff_eq.mpr c12
            have c12b1 : (t184 != 0) = false := bne_eq_false_iff_eq.mpr c12
            clear c12
            replace H := Option.bind_eq_some_iff.mp H
            obtain ⟨t185, A130, H⟩ := H
            replace H : (if t185.toList = a1.toList then ((coin_Text.f a0).bind fun t186 => (some (decide ((t186.size : Int) ≤ 20)))) else (if t184 = 11 then (if t183 = 0 then ((coin_Text.f a0).bind fun t187 => (some (decide ((t187.size : Int) ≤ 20)))) else (none)) else (none))) = some r := H
            have A13 := Aside0.mk A130
            clear A130
            by_cases c14 : t185.toList = a1.toList
            · rw [if_pos c14] at H
              have c14b0 : (t185.toList == a1.toList) = true := beq_iff_eq.mpr c14
              have c14b1 : (t185.toList != a1.toList) = false := bne_eq_false_iff_eq.mpr c14
              clear c14
              replace H := Option.bind_eq_some_iff.mp H
              obtain ⟨t186, A150, H⟩ := H
              replace H : (some (decide ((t186.size : Int) ≤ 20))) = some r := H
              have A15 := Aside0.mk A150
              clear A150
              obtain rfl := Option.some.inj H
              go_enter Tryd.func7, Tryd.ntmps7
              go_wp2_with (first | ((with_reducible refine gate_callee (f := 11) rfl ?_); refine goesL_ (some 10) rfl rfl Tryd.func11 (by kernel_rfl) rfl #[] rfl (by (try simp only [List.map_toArray, List.map_cons, List.map_nil]); first | done | rfl | (simp only [List.length_drop, List.length_take]; rfl)) ?_; (with_reducible refine (cambistlaw01_awake.calls k  true _ ?side1 A3.out).mono ?_); (case side1 => exact Glob.below HG.out (by repeat (first | (with_reducible first | exact HB.out | apply below_alloc | apply pw_below_drewN | apply below_drew1) | exact HB.out))); rintro e w16 ⟨rfl, hb⟩; refine ⟨_, rfl, ?_⟩; have n0_ := Aside0.mk (below_step (by repeat (first | (with_reducible first | exact HB.out | apply below_alloc | apply pw_below_drewN | apply below_drew1) | exact HB.out)) hb); clear HB; have HB := n0_; clear n0_; (try clear hb); (try clear hb2); (try clear hk); (try clear hi)) | ((with_reducible refine gate_callee (f := 22) rfl ?_); refine goesL_ (some 17) rfl rfl Tryd.func22 (by kernel_rfl) rfl #[.int .i64 a0] rfl (by (try simp only [List.map_toArray, List.map_cons, List.map_nil]); first | done | rfl | (simp only [List.length_drop, List.length_take]; rfl)) ?_; (with_reducible refine (coin_Text.calls a0 t180 _ ?side1 A6.out).mono ?_); (case side1 => exact Glob.below HG.out (by repeat (first | (with_reducible first | exact HB.out | apply below_alloc | apply pw_below_drewN | apply below_drew1) | exact HB.out))); rintro e w17 ⟨rfl, hb⟩; refine ⟨_, rfl, ?_⟩; have n0_ := Aside0.mk (below_step (by repeat (first | (with_reducible first | exact HB.out | apply below_alloc | apply pw_below_drewN | apply below_drew1) | exact HB.out)) hb); clear HB; have HB := n0_; clear n0_; (try clear hb); (try clear hb2); (try clear hk); (try clear hi)) | ((with_reducible refine gate_callee (f := 20) rfl ?_); refine goesL_ (some 18) rfl rfl Tryd.func20 (by kernel_rfl) rfl #[.string t180] rfl (by (try simp only [List.map_toArray, List.map_cons, List.map_nil]); first | done | rfl | (simp only [List.length_drop, List.length_take]; rfl)) ?_; (with_reducible refine (coin_Parse.calls t180 t181 t182 _ ?side1 A7.out).mono ?_); (case side1 => exact Glob.below HG.out (by repeat (first | (with_reducible first | exact HB.out | apply below_alloc | apply pw_below_drewN | apply below_drew1) | exact HB.out))); rintro e w18 ⟨rfl, hb⟩; refine ⟨_, rfl, ?_⟩; have n0_ := Aside0.mk (below_step (by repeat (first | (with_reducible first | exact HB.out | apply below_alloc | apply pw_below_drewN | apply below_drew1) | exact HB.out)) hb); clear HB; have HB := n0_; clear n0_; (try clear hb); (try clear hb2); (try clear hk); (try clear hi)) | ((with_reducible refine gate_callee (f := 20) rfl ?_); refine goesL_ (some 23) rfl rfl Tryd.func20 (by kernel_rfl) rfl #[.string a1] rfl (by (try simp only [List.map_toArray, List.map_cons, List.map_nil]); first | done | rfl | (simp only [List.length_drop, List.length_take]; rfl)) ?_; (with_reducible refine (coin_Parse.calls a1 t183 t184 _ ?side1 A8.out).mono ?_); (case side1 => exact Glob.below HG.out (by repeat (first | (with_reducible first | exact HB.out | apply below_alloc | apply pw_below_drewN | apply below_drew1) | exact HB.out))); rintro e w19 ⟨rfl, hb⟩; refine ⟨_, rfl, ?_⟩; have n0_ := Aside0.mk (below_step (by repeat (first | (with_reducible first | exact HB.out | apply below_alloc | apply pw_below_drewN | apply below_drew1) | exact HB.out)) hb); clear HB; have HB := n0_; clear n0_; (try clear hb); (try clear hb2); (try clear hk); (try clear hi)) | (go_at_call 22; (with_reducible refine (coin_Text.calls t183 t185 _ ?side1 A13.out).mono ?_); (case side1 => exact Glob.below HG.out (by repeat (first | (with_reducible first | exact HB.out | apply below_alloc | apply pw_below_drewN | apply below_drew1) | exact HB.out))); rintro e w20 ⟨rfl, hb⟩; have n0_ := Aside0.mk (below_step (by repeat (first | (with_reducible first | exact HB.out | apply below_alloc | apply pw_below_drewN | apply below_drew1) | exact HB.out)) hb); clear HB; have HB := n0_; clear n0_; (try clear hb); (try clear hb2); (try clear hk); (try clear hi)) | (go_at_call 22; (with_reducible refine (coin_Text.calls a0 t186 _ ?side1 A15.out).mono ?_); (case side1 => exact Glob.below HG.out (by repeat (first | (with_reducible first | exact HB.out | apply below_alloc | apply pw_below_drewN | apply below_drew1) | exact HB.out))); rintro e w21 ⟨rfl, hb⟩; have n0_ := Aside0.mk (below_step (by repeat (first | (with_reducible first | exact HB.out | apply below_alloc | apply pw_below_drewN | apply below_drew1) | exact HB.out)) hb); clear HB; have HB := n0_; clear n0_; (try clear hb); (try clear hb2); (try clear hk); (try clear hi)))
              go_ret
              exact ⟨by first | rfl | (simp [errW_none, errW_some] <;> rfl) | (simp [*, errW_none, errW_some] <;> rfl), by repeat (first | (with_reducible first | exact HB.out | apply below_alloc | apply pw_below_drewN | apply below_drew1) | exact HB.out)⟩
            · rw [if_neg c14] at H
              have c14b0 : (t185.toList == a1.toList) = false := beq_eq_false_iff_ne.mpr c14
              have c14b1 : (t185.toList != a1.toList) = true := bne_iff_ne.mpr c14
              by_cases c22 : t184 = 11
              · rw [if_pos c22] at H
                have c22b0 : (t184 == 11) = true := beq_iff_eq.mpr c22
                have c22b1 : (t184 != 11) = false := bne_eq_false_iff_eq.mpr c22
                clear c22
                by_cases c23 : t183 = 0
                · rw [if_pos c23] at H
                  have c23b0 : (t183 == 0) = true := beq_iff_eq.mpr c23
                  have c23b1 : (t183 != 0) = false := bne_eq_false_iff_eq.mpr c23
                  clear c23
                  replace H := Option.bind_eq_some_iff.mp H
                  obtain ⟨t187, A240, H⟩ := H
                  replace H : (some (decide ((t187.size : Int) ≤ 20))) = some r := H
                  have A24 := Aside0.mk A240
                  clear A240
                  obtain rfl := Option.some.inj H
                  go_enter Tryd.func7, Tryd.ntmps7
                  go_wp2_with (first | ((with_reducible refine gate_callee (f := 11) rfl ?_); refine goesL_ (some 10) rfl rfl Tryd.func11 (by kernel_rfl) rfl #[] rfl (by (try simp only [List.map_toArray, List.map_cons, List.map_nil]); first | done | rfl | (simp only [List.length_drop, List.length_take]; rfl)) ?_; (with_reducible refine (cambistlaw01_awake.calls k  true _ ?side1 A3.out).mono ?_); (case side1 => exact Glob.below HG.out (by repeat (first | (with_reducible first | exact HB.out | apply below_alloc | apply pw_below_drewN | apply below_drew1) | exact HB.out))); rintro e w25 ⟨rfl, hb⟩; refine ⟨_, rfl, ?_⟩; have n0_ := Aside0.mk (below_step (by repeat (first | (with_reducible first | exact HB.out | apply below_alloc | apply pw_below_drewN | apply below_drew1) | exact HB.out)) hb); clear HB; have HB := n0_; clear n0_; (try clear hb); (try clear hb2); (try clear hk); (try clear hi)) | ((with_reducible refine gate_callee (f := 22) rfl ?_); refine goesL_ (some 17) rfl rfl Tryd.func22 (by kernel_rfl) rfl #[.int .i64 a0] rfl (by (try simp only [List.map_toArray, List.map_cons, List.map_nil]); first | done | rfl | (simp only [List.length_drop, List.length_take]; rfl)) ?_; (with_reducible refine (coin_Text.calls a0 t180 _ ?side1 A6.out).mono ?_); (case side1 => exact Glob.below HG.out (by repeat (first | (with_reducible first | exact HB.out | apply below_alloc | apply pw_below_drewN | apply below_drew1) | exact HB.out))); rintro e w26 ⟨rfl, hb⟩; refine ⟨_, rfl, ?_⟩; have n0_ := Aside0.mk (below_step (by repeat (first | (with_reducible first | exact HB.out | apply below_alloc | apply pw_below_drewN | apply below_drew1) | exact HB.out)) hb); clear HB; have HB := n0_; clear n0_; (try clear hb); (try clear hb2); (try clear hk); (try clear hi)) | ((with_reducible refine gate_callee (f := 20) rfl ?_); refine goesL_ (some 18) rfl rfl Tryd.func20 (by kernel_rfl) rfl #[.string t180] rfl (by (try simp only [List.map_toArray, List.map_cons, List.map_nil]); first | done | rfl | (simp only [List.length_drop, List.length_take]; rfl)) ?_; (with_reducible refine (coin_Parse.calls t180 t181 t182 _ ?side1 A7.out).mono ?_); (case side1 => exact Glob.below HG.out (by repeat (first | (with_reducible first | exact HB.out | apply below_alloc | apply pw_below_drewN | apply below_drew1) | exact HB.out))); rintro e w27 ⟨rfl, hb⟩; refine ⟨_, rfl, ?_⟩; have n0_ := Aside0.mk (below_step (by repeat (first | (with_reducible first | exact HB.out | apply below_alloc | apply pw_below_drewN | apply below_drew1) | exact HB.out)) hb); clear HB; have HB := n0_; clear n0_; (try clear hb); (try clear hb2); (try clear hk); (try clear hi)) | ((with_reducible refine gate_callee (f := 20) rfl ?_); refine goesL_ (some 23) rfl rfl Tryd.func20 (by kernel_rfl) rfl #[.string a1] rfl (by (try simp only [List.map_toArray, List.map_cons, List.map_nil]); first | done | rfl | (simp only [List.length_drop, List.length_take]; rfl)) ?_; (with_reducible refine (coin_Parse.calls a1 t183 t184 _ ?side1 A8.out).mono ?_); (case side1 => exact Glob.below HG.out (by repeat (first | (with_reducible first | exact HB.out | apply below_alloc | apply pw_below_drewN | apply below_drew1) | exact HB.out))); rintro e w28 ⟨rfl, hb⟩; refine ⟨_, rfl, ?_⟩; have n0_ := Aside0.mk (below_step (by repeat (first | (with_reducible first | exact HB.out | apply below_alloc | apply pw_below_drewN | apply below_drew1) | exact HB.out)) hb); clear HB; have HB := n0_; clear n0_; (try clear hb); (try clear hb2); (try clear hk); (try clear hi)) | (go_at_call 22; (with_reducible refine (coin_Text.calls t183 t185 _ ?side1 A13.out).mono ?_); (case side1 => exact Glob.below HG.out (by repeat (first | (with_reducible first | exact HB.out | apply below_alloc | apply pw_below_drewN | apply below_drew1) | exact HB.out))); rintro e w29 ⟨rfl, hb⟩; have n0_ := Aside0.mk (below_step (by repeat (first | (with_reducible first | exact HB.out | apply below_alloc | apply pw_below_drewN | apply below_drew1) | exact HB.out)) hb); clear HB; have HB := n0_; clear n0_; (try clear hb); (try clear hb2); (try clear hk); (try clear hi)) | (go_at_call 22; (with_reducible refine (coin_Text.calls a0 t187 _ ?side1 A24.out).mono ?_); (case side1 => exact Glob.below HG.out (by repeat (first | (with_reducible first | exact HB.out | apply below_alloc | apply pw_below_drewN | apply below_drew1) | exact HB.out))); rintro e w30 ⟨rfl, hb⟩; have n0_ := Aside0.mk (below_step (by repeat (first | (with_reducible first | exact HB.out | apply below_alloc | apply pw_below_drewN | apply below_drew1) | exact HB.out)) hb); clear HB; have HB := n0_; clear n0_; (try clear hb); (try clear hb2); (try clear hk); (try clear hi)))
                  go_ret
                  exact ⟨by first | rfl | (simp [errW_none, errW_some] <;> rfl) | (simp [*, errW_none, errW_some] <;> rfl), by repeat (first | (with_reducible first | exact HB.out | apply below_alloc | apply pw_below_drewN | apply below_drew1) | exact HB.out)⟩
                · rw [if_neg c23] at H
                  exact absurd H (by simp)
              · rw [if_neg c22] at H
                exact absurd H (by simp)
          · rw [if_neg c12] at H
            have c12b0 : (t184 == 0) = false := beq_eq_false_iff_ne.mpr c12
            have c12b1 : (t184 != 0) = true := bne_iff_ne.mpr c12
            by_cases c31 : t184 = 11
            · rw [if_pos c31] at H
              have c31b0 : (t184 == 11) = true := beq_iff_eq.mpr c31
              have c31b1 : (t184 != 11) = false := bne_eq_false_iff_eq.mpr c31
              clear c31
              by_cases c32 : t183 = 0
              · rw [if_pos c32] at H
                have c32b0 : (t183 == 0) = true := beq_iff_eq.mpr c32
                have c32b1 : (t183 != 0) = false := bne_eq_false_iff_eq.mpr c32
                clear c32
                replace H := Option.bind_eq_some_iff.mp H
                obtain ⟨t188, A330, H⟩ := H
                replace H : (some (decide ((t188.size : Int) ≤ 20))) = some r := H
                have A33 := Aside0.mk A330
                clear A330
                obtain rfl := Option.some.inj H
                go_enter Tryd.func7, Tryd.ntmps7
                go_wp2_with (first | ((with_reducible refine gate_callee (f := 11) rfl ?_); refine goesL_ (some 10) rfl rfl Tryd.func11 (by kernel_rfl) rfl #[] rfl (by (try simp only [List.map_toArray, List.map_cons, List.map_nil]); first | done | rfl | (simp only [List.length_drop, List.length_take]; rfl)) ?_; (with_reducible refine (cambistlaw01_awake.calls k  true _ ?side1 A3.out).mono ?_); (case side1 => exact Glob.below HG.out (by repeat (first | (with_reducible first | exact HB.out | apply below_alloc | apply pw_below_drewN | apply below_drew1) | exact HB.out))); rintro e w34 ⟨rfl, hb⟩; refine ⟨_, rfl, ?_⟩; have n0_ := Aside0.mk (below_step (by repeat (first | (with_reducible first | exact HB.out | apply below_alloc | apply pw_below_drewN | apply below_drew1) | exact HB.out)) hb); clear HB; have HB := n0_; clear n0_; (try clear hb); (try clear hb2); (try clear hk); (try clear hi)) | ((with_reducible refine gate_callee (f := 22) rfl ?_); refine goesL_ (some 17) rfl rfl Tryd.func22 (by kernel_rfl) rfl #[.int .i64 a0] rfl (by (try simp only [List.map_toArray, List.map_cons, List.map_nil]); first | done | rfl | (simp only [List.length_drop, List.length_take]; rfl)) ?_; (with_reducible refine (coin_Text.calls a0 t180 _ ?side1 A6.out).mono ?_); (case side1 => exact Glob.below HG.out (by repeat (first | (with_reducible first | exact HB.out | apply below_alloc | apply pw_below_drewN | apply below_drew1) | exact HB.out))); rintro e w35 ⟨rfl, hb⟩; refine ⟨_, rfl, ?_⟩; have n0_ := Aside0.mk (below_step (by repeat (first | (with_reducible first | exact HB.out | apply below_alloc | apply pw_below_drewN | apply below_drew1) | exact HB.out)) hb); clear HB; have HB := n0_; clear n0_; (try clear hb); (try clear hb2); (try clear hk); (try clear hi)) | ((with_reducible refine gate_callee (f := 20) rfl ?_); refine goesL_ (some 18) rfl rfl Tryd.func20 (by kernel_rfl) rfl #[.string t180] rfl (by (try simp only [List.map_toArray, List.map_cons, List.map_nil]); first | done | rfl | (simp only [List.length_drop, List.length_take]; rfl)) ?_; (with_reducible refine (coin_Parse.calls t180 t181 t182 _ ?side1 A7.out).mono ?_); (case side1 => exact Glob.below HG.out (by repeat (first | (with_reducible first | exact HB.out | apply below_alloc | apply pw_below_drewN | apply below_drew1) | exact HB.out))); rintro e w36 ⟨rfl, hb⟩; refine ⟨_, rfl, ?_⟩; have n0_ := Aside0.mk (below_step (by repeat (first | (with_reducible first | exact HB.out | apply below_alloc | apply pw_below_drewN | apply below_drew1) | exact HB.out)) hb); clear HB; have HB := n0_; clear n0_; (try clear hb); (try clear hb2); (try clear hk); (try clear hi)) | ((with_reducible refine gate_callee (f := 20) rfl ?_); refine goesL_ (some 23) rfl rfl Tryd.func20 (by kernel_rfl) rfl #[.string a1] rfl (by (try simp only [List.map_toArray, List.map_cons, List.map_nil]); first | done | rfl | (simp only [List.length_drop, List.length_take]; rfl)) ?_; (with_reducible refine (coin_Parse.calls a1 t183 t184 _ ?side1 A8.out).mono ?_); (case side1 => exact Glob.below HG.out (by repeat (first | (with_reducible first | exact HB.out | apply below_alloc | apply pw_below_drewN | apply below_drew1) | exact HB.out))); rintro e w37 ⟨rfl, hb⟩; refine ⟨_, rfl, ?_⟩; have n0_ := Aside0.mk (below_step (by repeat (first | (with_reducible first | exact HB.out | apply below_alloc | apply pw_below_drewN | apply below_drew1) | exact HB.out)) hb); clear HB; have HB := n0_; clear n0_; (try clear hb); (try clear hb2); (try clear hk); (try clear hi)) | (go_at_call 22; (with_reducible refine (coin_Text.calls a0 t188 _ ?side1 A33.out).mono ?_); (case side1 => exact Glob.below HG.out (by repeat (first | (with_reducible first | exact HB.out | apply below_alloc | apply pw_below_drewN | apply below_drew1) | exact HB.out))); rintro e w38 ⟨rfl, hb⟩; have n0_ := Aside0.mk (below_step (by repeat (first | (with_reducible first | exact HB.out | apply below_alloc | apply pw_below_drewN | apply below_drew1) | exact HB.out)) hb); clear HB; have HB := n0_; clear n0_; (try clear hb); (try clear hb2); (try clear hk); (try clear hi)))
                go_ret
                exact ⟨by first | rfl | (simp [errW_none, errW_some] <;> rfl) | (simp [*, errW_none, errW_some] <;> rfl), by repeat (first | (with_reducible first | exact HB.out | apply below_alloc | apply pw_below_drewN | apply below_drew1) | exact HB.out)⟩
              · rw [if_neg c32] at H
                exact absurd H (by simp)
            · rw [if_neg c31] at H
              exact absurd H (by simp)
        · rw [if_neg c11] at H
          exact absurd H (by simp)
      · rw [if_neg c10] at H
        exact absurd H (by simp)
    · replace c9 := Bool.eq_false_iff.mpr c9
      subst c9
      have H1 : (none) = some r := by rw [if_neg (show ¬ (false = true) by decide)] at H; exact H
      clear H
      have H := H1
      clear H1
      exact absurd H (by simp)

/-! ### cambistlaw01_CoinUndoes: function 8 -/
mutual
def cambistlaw01_CoinUndoes.j0 : Nat → Int → Int → Bool → Int → Int → Int → Int → Int → Int → Bool → Option (Bool)
  | 0, _, _, _, _, _, _, _, _, _, _ => none
  | k + 1, x0, x1, x5, x6, x7, x10, x11, x12, x13, x68 => if x68 = true then (none) else (if x7 = 0 then ((coin_Sub.f x6 x1).bind fun bt200 => (if bt200.1 = x0 then (if bt200.2 = 0 then (cambistlaw01_CoinUndoes.j1 k x0 x1 x5 x10 x11 x12 x13) else (none)) else (none))) else (cambistlaw01_CoinUndoes.j1 k x0 x1 x5 x10 x11 x12 x13))
def cambistlaw01_CoinUndoes.j1 : Nat → Int → Int → Bool → Int → Int → Int → Int → Option (Bool)
  | 0, _, _, _, _, _, _, _ => none
  | k + 1, x0, x1, x5, x10, x11, x12, x13 => if x11 = 0 then ((coin_Add.f x10 x1).bind fun bt202 => (if bt202.1 = x0 then (if bt202.2 = 0 then (if x5 = true then (if x13 = 0 then (if x1 = 0 then (some true) else (if x1 = (-1) then (some true) else (some ((wrap64 (Int.tdiv x12 x1)) == x0)))) else (some true)) else (none)) else (none)) else (none))) else (if x5 = true then (if x13 = 0 then (if x1 = 0 then (some true) else (if x1 = (-1) then (some true) else (some ((wrap64 (Int.tdiv x12 x1)) == x0)))) else (some true)) else (none))
end
def cambistlaw01_CoinUndoes.f (k : Nat) (a0 : Int) (a1 : Int) : Option (Bool) := (cambistlaw01_awake.f k).bind fun t189 => ((coin_Add.f a0 a1).bind fun bt190 => ((coin_Add.f a1 a0).bind fun bt192 => ((coin_Sub.f a0 a1).bind fun bt194 => ((coin_Mul.f k a0 a1).bind fun bt196 => ((coin_Mul.f k a1 a0).bind fun bt198 => (if bt190.1 = bt192.1 then (if bt190.2 = bt192.2 then (if bt196.1 = bt198.1 then (cambistlaw01_CoinUndoes.j0 k a0 a1 t189 bt190.1 bt190.2 bt194.1 bt194.2 bt196.1 bt196.2 (bt196.2 != bt198.2)) else (cambistlaw01_CoinUndoes.j0 k a0 a1 t189 bt190.1 bt190.2 bt194.1 bt194.2 bt196.1 bt196.2 true)) else (cambistlaw01_CoinUndoes.j0 k a0 a1 t189 bt190.1 bt190.2 bt194.1 bt194.2 bt196.1 bt196.2 true)) else (cambistlaw01_CoinUndoes.j0 k a0 a1 t189 bt190.1 bt190.2 bt194.1 bt194.2 bt196.1 bt196.2 true)))))))
theorem cambistlaw01_CoinUndoes.mono_l : ∀ k, (∀ y0 y1 y2 y3 y4 y5 y6 y7 y8 y9, LeO (cambistlaw01_CoinUndoes.j0 k y0 y1 y2 y3 y4 y5 y6 y7 y8 y9) (cambistlaw01_CoinUndoes.j0 (k + 1) y0 y1 y2 y3 y4 y5 y6 y7 y8 y9)) ∧ (∀ y0 y1 y2 y3 y4 y5 y6, LeO (cambistlaw01_CoinUndoes.j1 k y0 y1 y2 y3 y4 y5 y6) (cambistlaw01_CoinUndoes.j1 (k + 1) y0 y1 y2 y3 y4 y5 y6))
  | 0 => ⟨fun _ _ _ _ _ _ _ _ _ _ r h => by simp [cambistlaw01_CoinUndoes.j0] at h, fun _ _ _ _ _ _ _ r h => by simp [cambistlaw01_CoinUndoes.j1] at h⟩
  | k + 1 => by
    obtain ⟨ih0, ih1⟩ := cambistlaw01_CoinUndoes.mono_l k
    refine ⟨?_, ?_⟩
    · intro y0 y1 y2 y3 y4 y5 y6 y7 y8 y9
      unfold cambistlaw01_CoinUndoes.j0
      repeat' first
      | (with_reducible exact ih0 _ _ _ _ _ _ _ _ _ _)
      | (with_reducible exact ih1 _ _ _ _ _ _ _)
      | (with_reducible exact cambistlaw01_awake.mono _)
      | (with_reducible exact coin_Mul.mono _ _ _)
      | (with_reducible exact LeO.refl _)
      | (with_reducible exact LeO.none _)
      | (with_reducible refine LeO.ite ?_ ?_)
      | (with_reducible refine LeO.bind ?_ (fun _ => ?_))
      | exact ih0 _ _ _ _ _ _ _ _ _ _
      | exact ih1 _ _ _ _ _ _ _
      | exact cambistlaw01_awake.mono _
      | exact coin_Mul.mono _ _ _
      | exact LeO.none _
      | refine LeO.ite ?_ ?_
      | refine LeO.bind ?_ (fun _ => ?_)
    · intro y0 y1 y2 y3 y4 y5 y6
      unfold cambistlaw01_CoinUndoes.j1
      repeat' first
      | (with_reducible exact ih0 _ _ _ _ _ _ _ _ _ _)
      | (with_reducible exact ih1 _ _ _ _ _ _ _)
      | (with_reducible exact cambistlaw01_awake.mono _)
      | (with_reducible exact coin_Mul.mono _ _ _)
      | (with_reducible exact LeO.refl _)
      | (with_reducible exact LeO.none _)
      | (with_reducible refine LeO.ite ?_ ?_)
      | (with_reducible refine LeO.bind ?_ (fun _ => ?_))
      | exact ih0 _ _ _ _ _ _ _ _ _ _
      | exact ih1 _ _ _ _ _ _ _
      | exact cambistlaw01_awake.mono _
      | exact coin_Mul.mono _ _ _
      | exact LeO.none _
      | refine LeO.ite ?_ ?_
      | refine LeO.bind ?_ (fun _ => ?_)
theorem cambistlaw01_CoinUndoes.mono : ∀ a0 a1 k, LeO (cambistlaw01_CoinUndoes.f k a0 a1) (cambistlaw01_CoinUndoes.f (k + 1) a0 a1) := by
  intro a0 a1 k
  obtain ⟨ih0, ih1⟩ := cambistlaw01_CoinUndoes.mono_l k
  unfold cambistlaw01_CoinUndoes.f
  repeat' first
      | (with_reducible exact ih0 _ _ _ _ _ _ _ _ _ _)
      | (with_reducible exact ih1 _ _ _ _ _ _ _)
      | (with_reducible exact cambistlaw01_awake.mono _)
      | (with_reducible exact coin_Mul.mono _ _ _)
      | (with_reducible exact LeO.refl _)
      | (with_reducible exact LeO.none _)
      | (with_reducible refine LeO.ite ?_ ?_)
      | (with_reducible refine LeO.bind ?_ (fun _ => ?_))
      | exact ih0 _ _ _ _ _ _ _ _ _ _
      | exact ih1 _ _ _ _ _ _ _
      | exact cambistlaw01_awake.mono _
      | exact coin_Mul.mono _ _ _
      | exact LeO.none _
      | refine LeO.ite ?_ ?_
      | refine LeO.bind ?_ (fun _ => ?_)
set_option maxHeartbeats 8000000 in
set_option maxRecDepth 100000 in
theorem cambistlaw01_CoinUndoes.calls (k : Nat) (a0 : Int) (a1 : Int) (r : Bool) (w : World) (hG : Glob w) (h : cambistlaw01_CoinUndoes.f k a0 a1 = some r) :
    Calls Tryd.prog 8 #[.int .i64 a0, .int .i64 a1] w fun e w' => e = .returned (.bool r) ∧ Below w.heap.size w w' := by
  have HG := Aside0.mk hG
  clear hG
  have HB := Aside0.mk (Below.refl w.heap.size w)
  have H : ((cambistlaw01_awake.f k).bind fun t189 => ((coin_Add.f a0 a1).bind fun bt190 => ((coin_Add.f a1 a0).bind fun bt192 => ((coin_Sub.f a0 a1).bind fun bt194 => ((coin_Mul.f k a0 a1).bind fun bt196 => ((coin_Mul.f k a1 a0).bind fun bt198 => (if bt190.1 = bt192.1 then (if bt190.2 = bt192.2 then (if bt196.1 = bt198.1 then (cambistlaw01_CoinUndoes.j0 k a0 a1 t189 bt190.1 bt190.2 bt194.1 bt194.2 bt196.1 bt196.2 (bt196.2 != bt198.2)) else (cambistlaw01_CoinUndoes.j0 k a0 a1 t189 bt190.1 bt190.2 bt194.1 bt194.2 bt196.1 bt196.2 true)) else (cambistlaw01_CoinUndoes.j0 k a0 a1 t189 bt190.1 bt190.2 bt194.1 bt194.2 bt196.1 bt196.2 true)) else (cambistlaw01_CoinUndoes.j0 k a0 a1 t189 bt190.1 bt190.2 bt194.1 bt194.2 bt196.1 bt196.2 true)))))))) = some r := h
  clear h
  replace H := Option.bind_eq_some_iff.mp H
  obtain ⟨t189, A30, H⟩ := H
  replace H : ((coin_Add.f a0 a1).bind fun bt190 => ((coin_Add.f a1 a0).bind fun bt192 => ((coin_Sub.f a0 a1).bind fun bt194 => ((coin_Mul.f k a0 a1).bind fun bt196 => ((coin_Mul.f k a1 a0).bind fun bt198 => (if bt190.1 = bt192.1 then (if bt190.2 = bt192.2 then (if bt196.1 = bt198.1 then (cambistlaw01_CoinUndoes.j0 k a0 a1 t189 bt190.1 bt190.2 bt194.1 bt194.2 bt196.1 bt196.2 (bt196.2 != bt198.2)) else (cambistlaw01_CoinUndoes.j0 k a0 a1 t189 bt190.1 bt190.2 bt194.1 bt194.2 bt196.1 bt196.2 true)) else (cambistlaw01_CoinUndoes.j0 k a0 a1 t189 bt190.1 bt190.2 bt194.1 bt194.2 bt196.1 bt196.2 true)) else (cambistlaw01_CoinUndoes.j0 k a0 a1 t189 bt190.1 bt190.2 bt194.1 bt194.2 bt196.1 bt196.2 true))))))) = some r := H
  have A3 := Aside0.mk A30
  clear A30
  replace H := Option.bind_eq_some_iff.mp H
  obtain ⟨⟨t190, t191⟩, A40, H⟩ := H
  replace H : ((coin_Add.f a1 a0).bind fun bt192 => ((coin_Sub.f a0 a1).bind fun bt194 => ((coin_Mul.f k a0 a1).bind fun bt196 => ((coin_Mul.f k a1 a0).bind fun bt198 => (if t190 = bt192.1 then (if t191 = bt192.2 then (if bt196.1 = bt198.1 then (cambistlaw01_CoinUndoes.j0 k a0 a1 t189 t190 t191 bt194.1 bt194.2 bt196.1 bt196.2 (bt196.2 != bt198.2)) else (cambistlaw01_CoinUndoes.j0 k a0 a1 t189 t190 t191 bt194.1 bt194.2 bt196.1 bt196.2 true)) else (cambistlaw01_CoinUndoes.j0 k a0 a1 t189 t190 t191 bt194.1 bt194.2 bt196.1 bt196.2 true)) else (cambistlaw01_CoinUndoes.j0 k a0 a1 t189 t190 t191 bt194.1 bt194.2 bt196.1 bt196.2 true)))))) = some r := H
  have A4 := Aside0.mk A40
  clear A40
  replace H := Option.bind_eq_some_iff.mp H
  obtain ⟨⟨t192, t193⟩, A50, H⟩ := H
  replace H : ((coin_Sub.f a0 a1).bind fun bt194 => ((coin_Mul.f k a0 a1).bind fun bt196 => ((coin_Mul.f k a1 a0).bind fun bt198 => (if t190 = t192 then (if t191 = t193 then (if bt196.1 = bt198.1 then (cambistlaw01_CoinUndoes.j0 k a0 a1 t189 t190 t191 bt194.1 bt194.2 bt196.1 bt196.2 (bt196.2 != bt198.2)) else (cambistlaw01_CoinUndoes.j0 k a0 a1 t189 t190 t191 bt194.1 bt194.2 bt196.1 bt196.2 true)) else (cambistlaw01_CoinUndoes.j0 k a0 a1 t189 t190 t191 bt194.1 bt194.2 bt196.1 bt196.2 true)) else (cambistlaw01_CoinUndoes.j0 k a0 a1 t189 t190 t191 bt194.1 bt194.2 bt196.1 bt196.2 true))))) = some r := H
  have A5 := Aside0.mk A50
  clear A50
  replace H := Option.bind_eq_some_iff.mp H
  obtain ⟨⟨t194, t195⟩, A60, H⟩ := H
  replace H : ((coin_Mul.f k a0 a1).bind fun bt196 => ((coin_Mul.f k a1 a0).bind fun bt198 => (if t190 = t192 then (if t191 = t193 then (if bt196.1 = bt198.1 then (cambistlaw01_CoinUndoes.j0 k a0 a1 t189 t190 t191 t194 t195 bt196.1 bt196.2 (bt196.2 != bt198.2)) else (cambistlaw01_CoinUndoes.j0 k a0 a1 t189 t190 t191 t194 t195 bt196.1 bt196.2 true)) else (cambistlaw01_CoinUndoes.j0 k a0 a1 t189 t190 t191 t194 t195 bt196.1 bt196.2 true)) else (cambistlaw01_CoinUndoes.j0 k a0 a1 t189 t190 t191 t194 t195 bt196.1 bt196.2 true)))) = some r := H
  have A6 := Aside0.mk A60
  clear A60
  replace H := Option.bind_eq_some_iff.mp H
  obtain ⟨⟨t196, t197⟩, A70, H⟩ := H
  replace H : ((coin_Mul.f k a1 a0).bind fun bt198 => (if t190 = t192 then (if t191 = t193 then (if t196 = bt198.1 then (cambistlaw01_CoinUndoes.j0 k a0 a1 t189 t190 t191 t194 t195 t196 t197 (t197 != bt198.2)) else (cambistlaw01_CoinUndoes.j0 k a0 a1 t189 t190 t191 t194 t195 t196 t197 true)) else (cambistlaw01_CoinUndoes.j0 k a0 a1 t189 t190 t191 t194 t195 t196 t197 true)) else (cambistlaw01_CoinUndoes.j0 k a0 a1 t189 t190 t191 t194 t195 t196 t197 true))) = some r := H
  have A7 := Aside0.mk A70
  clear A70
  replace H := Option.bind_eq_some_iff.mp H
  obtain ⟨⟨t198, t199⟩, A80, H⟩ := H
  replace H : (if t190 = t192 then (if t191 = t193 then (if t196 = t198 then (cambistlaw01_CoinUndoes.j0 k a0 a1 t189 t190 t191 t194 t195 t196 t197 (t197 != t199)) else (cambistlaw01_CoinUndoes.j0 k a0 a1 t189 t190 t191 t194 t195 t196 t197 true)) else (cambistlaw01_CoinUndoes.j0 k a0 a1 t189 t190 t191 t194 t195 t196 t197 true)) else (cambistlaw01_CoinUndoes.j0 k a0 a1 t189 t190 t191 t194 t195 t196 t197 true)) = some r := H
  have A8 := Aside0.mk A80
  clear A80
  have HC9 := Aside0.mk H
  clear H
  go_enter Tryd.func8, Tryd.ntmps8
  go_upto_region 7 with (first | ((with_reducible refine gate_callee (f := 11) rfl ?_); refine goesL_ (some 20) rfl rfl Tryd.func11 (by kernel_rfl) rfl #[] rfl (by (try simp only [List.map_toArray, List.map_cons, List.map_nil]); first | done | rfl | (simp only [List.length_drop, List.length_take]; rfl)) ?_; (with_reducible refine (cambistlaw01_awake.calls k  t189 _ ?side1 A3.out).mono ?_); (case side1 => exact Glob.below HG.out (by repeat (first | (with_reducible first | exact HB.out | apply below_alloc | apply pw_below_drewN | apply below_drew1) | exact HB.out))); rintro e w10 ⟨rfl, hb⟩; refine ⟨_, rfl, ?_⟩; have n0_ := Aside0.mk (below_step (by repeat (first | (with_reducible first | exact HB.out | apply below_alloc | apply pw_below_drewN | apply below_drew1) | exact HB.out)) hb); clear HB; have HB := n0_; clear n0_; (try clear hb); (try clear hb2); (try clear hk); (try clear hi)) | ((with_reducible refine gate_callee (f := 12) rfl ?_); refine goesL_ (some 24) rfl rfl Tryd.func12 (by kernel_rfl) rfl #[.int .i64 a0, .int .i64 a1] rfl (by (try simp only [List.map_toArray, List.map_cons, List.map_nil]); first | done | rfl | (simp only [List.length_drop, List.length_take]; rfl)) ?_; (with_reducible refine (coin_Add.calls a0 a1 t190 t191 _ ?side1 A4.out).mono ?_); (case side1 => exact Glob.below HG.out (by repeat (first | (with_reducible first | exact HB.out | apply below_alloc | apply pw_below_drewN | apply below_drew1) | exact HB.out))); rintro e w' ⟨rfl, ⟨nd, rfl⟩⟩; refine ⟨_, rfl, ?_⟩) | ((with_reducible refine gate_callee (f := 12) rfl ?_); refine goesL_ (some 30) rfl rfl Tryd.func12 (by kernel_rfl) rfl #[.int .i64 a1, .int .i64 a0] rfl (by (try simp only [List.map_toArray, List.map_cons, List.map_nil]); first | done | rfl | (simp only [List.length_drop, List.length_take]; rfl)) ?_; (with_reducible refine (coin_Add.calls a1 a0 t192 t193 _ ?side1 A5.out).mono ?_); (case side1 => exact Glob.below HG.out (by repeat (first | (with_reducible first | exact HB.out | apply below_alloc | apply pw_below_drewN | apply below_drew1) | exact HB.out))); rintro e w' ⟨rfl, ⟨nd, rfl⟩⟩; refine ⟨_, rfl, ?_⟩) | ((with_reducible refine gate_callee (f := 14) rfl ?_); refine goesL_ (some 36) rfl rfl Tryd.func14 (by kernel_rfl) rfl #[.int .i64 a0, .int .i64 a1] rfl (by (try simp only [List.map_toArray, List.map_cons, List.map_nil]); first | done | rfl | (simp only [List.length_drop, List.length_take]; rfl)) ?_; (with_reducible refine (coin_Sub.calls a0 a1 t194 t195 _ ?side1 A6.out).mono ?_); (case side1 => exact Glob.below HG.out (by repeat (first | (with_reducible first | exact HB.out | apply below_alloc | apply pw_below_drewN | apply below_drew1) | exact HB.out))); rintro e w' ⟨rfl, ⟨nd, rfl⟩⟩; refine ⟨_, rfl, ?_⟩) | ((with_reducible refine gate_callee (f := 16) rfl ?_); refine goesL_ (some 42) rfl rfl Tryd.func16 (by kernel_rfl) rfl #[.int .i64 a0, .int .i64 a1] rfl (by (try simp only [List.map_toArray, List.map_cons, List.map_nil]); first | done | rfl | (simp only [List.length_drop, List.length_take]; rfl)) ?_; (with_reducible refine (coin_Mul.calls k a0 a1 t196 t197 _ ?side1 A7.out).mono ?_); (case side1 => exact Glob.below HG.out (by repeat (first | (with_reducible first | exact HB.out | apply below_alloc | apply pw_below_drewN | apply below_drew1) | exact HB.out))); rintro e w11 ⟨rfl, hb⟩; refine ⟨_, rfl, ?_⟩; have n0_ := Aside0.mk (below_step (by repeat (first | (with_reducible first | exact HB.out | apply below_alloc | apply pw_below_drewN | apply below_drew1) | exact HB.out)) hb); clear HB; have HB := n0_; clear n0_; (try clear hb); (try clear hb2); (try clear hk); (try clear hi)) | ((with_reducible refine gate_callee (f := 16) rfl ?_); refine goesL_ (some 48) rfl rfl Tryd.func16 (by kernel_rfl) rfl #[.int .i64 a1, .int .i64 a0] rfl (by (try simp only [List.map_toArray, List.map_cons, List.map_nil]); first | done | rfl | (simp only [List.length_drop, List.length_take]; rfl)) ?_; (with_reducible refine (coin_Mul.calls k a1 a0 t198 t199 _ ?side1 A8.out).mono ?_); (case side1 => exact Glob.below HG.out (by repeat (first | (with_reducible first | exact HB.out | apply below_alloc | apply pw_below_drewN | apply below_drew1) | exact HB.out))); rintro e w12 ⟨rfl, hb⟩; refine ⟨_, rfl, ?_⟩; have n0_ := Aside0.mk (below_step (by repeat (first | (with_reducible first | exact HB.out | apply below_alloc | apply pw_below_drewN | apply below_drew1) | exact HB.out)) hb); clear HB; have HB := n0_; clear n0_; (try clear hb); (try clear hb2); (try clear hk); (try clear hi)))
  (try simp only [Act.put, List.setIfInBounds_toArray, List.set_cons_zero, List.set_cons_succ])
  go_cut [68] (fun v68 wc => ∃ (kq : Nat) (x68_8 : Bool), v68 = .bool x68_8 ∧ Aside0 (cambistlaw01_CoinUndoes.j0 kq a0 a1 t189 t190 t191 t194 t195 t196 t197 x68_8 = some r) ∧ Aside0 (kq ≤ k) ∧ Aside0 (Below w.heap.size w wc))
  case first =>
    have H := HC9.out
    clear HC9
    by_cases c13 : t190 = t192
    · rw [if_pos c13] at H
      have c13b0 : (t190 == t192) = true := beq_iff_eq.mpr c13
      have c13b1 : (t190 != t192) = false := bne_eq_false_iff_eq.mpr c13
      clear c13
      (first | rw [c13b0] | (simp only [i64_w, i32_w]; rw [c13b0]) | skip)
      by_cases c14 : t191 = t193
      · rw [if_pos c14] at H
        have c14b0 : (t191 == t193) = true := beq_iff_eq.mpr c14
        have c14b1 : (t191 != t193) = false := bne_eq_false_iff_eq.mpr c14
        clear c14
        by_cases c15 : t196 = t198
        · rw [if_pos c15] at H
          have c15b0 : (t196 == t198) = true := beq_iff_eq.mpr c15
          have c15b1 : (t196 != t198) = false := bne_eq_false_iff_eq.mpr c15
          clear c15
          have H' := Aside0.mk H
          clear H
          go_wp2
          go_meet
          case rel => exact ⟨_, ((t197 != t199)), (by first | rfl | (simp; done) | (simp [*]; done)), H', ⟨by first | omega | exact Nat.le_refl _⟩, ⟨by repeat (first | (with_reducible first | exact HB.out | apply below_alloc | apply pw_below_drewN | apply below_drew1) | exact HB.out)⟩⟩
        · rw [if_neg c15] at H
          have c15b0 : (t196 == t198) = false := beq_eq_false_iff_ne.mpr c15
          have c15b1 : (t196 != t198) = true := bne_iff_ne.mpr c15
          have H' := Aside0.mk H
          clear H
          go_wp2
          go_meet
          case rel => exact ⟨_, (true), (by first | rfl | (simp; done) | (simp [*]; done)), H', ⟨by first | omega | exact Nat.le_refl _⟩, ⟨by repeat (first | (with_reducible first | exact HB.out | apply below_alloc | apply pw_below_drewN | apply below_drew1) | exact HB.out)⟩⟩
      · rw [if_neg c14] at H
        have c14b0 : (t191 == t193) = false := beq_eq_false_iff_ne.mpr c14
        have c14b1 : (t191 != t193) = true := bne_iff_ne.mpr c14
        have H' := Aside0.mk H
        clear H
        go_wp2
        go_meet
        case rel => exact ⟨_, (true), (by first | rfl | (simp; done) | (simp [*]; done)), H', ⟨by first | omega | exact Nat.le_refl _⟩, ⟨by repeat (first | (with_reducible first | exact HB.out | apply below_alloc | apply pw_below_drewN | apply below_drew1) | exact HB.out)⟩⟩
    · rw [if_neg c13] at H
      have c13b0 : (t190 == t192) = false := beq_eq_false_iff_ne.mpr c13
      have c13b1 : (t190 != t192) = true := bne_iff_ne.mpr c13
      (first | rw [c13b0] | (simp only [i64_w, i32_w]; rw [c13b0]) | skip)
      have H' := Aside0.mk H
      clear H
      go_wp2
      go_meet
      case rel => exact ⟨_, (true), (by first | rfl | (simp; done) | (simp [*]; done)), H', ⟨by first | omega | exact Nat.le_refl _⟩, ⟨by repeat (first | (with_reducible first | exact HB.out | apply below_alloc | apply pw_below_drewN | apply below_drew1) | exact HB.out)⟩⟩
  case rest =>
    clear HC9
    try clear c1
    try clear p2
    try clear c8
    try clear c11
    try clear c12
    try clear c13
    try clear c13b0
    try clear c13b1
    try clear c14
    try clear c14b0
    try clear c14b1
    try clear c15
    try clear c15b0
    try clear c15b1
    obtain ⟨kq, x68_8, rfl, HA, HJ8, HB⟩ := hcut
    cases kq with
    | zero => exact absurd HA.out (by simp [cambistlaw01_CoinUndoes.j0])
    | succ kj8 =>
      have H := HA.out
      clear HA
      simp only [cambistlaw01_CoinUndoes.j0] at H
      by_cases c16 : x68_8 = true
      · subst c16
        have H1 : (none) = some r := by rw [if_pos rfl] at H; exact H
        clear H
        have H := H1
        clear H1
        exact absurd H (by simp)
      · replace c16 := Bool.eq_false_iff.mpr c16
        subst c16
        have H1 : (if t191 = 0 then ((coin_Sub.f t190 a1).bind fun bt200 => (if bt200.1 = a0 then (if bt200.2 = 0 then (cambistlaw01_CoinUndoes.j1 kj8 a0 a1 t189 t194 t195 t196 t197) else (none)) else (none))) else (cambistlaw01_CoinUndoes.j1 kj8 a0 a1 t189 t194 t195 t196 t197)) = some r := by rw [if_neg (show ¬ (false = true) by decide)] at H; exact H
        clear H
        have H := H1
        clear H1
        have HC17 := Aside0.mk H
        clear H
        go_upto_if 70 with (fail)
        go_cut [] (fun wc => ∃ (kq : Nat), Aside0 (cambistlaw01_CoinUndoes.j1 kq a0 a1 t189 t194 t195 t196 t197 = some r) ∧ Aside0 (kq ≤ kj8) ∧ Aside0 (Below w.heap.size w wc))
        case first =>
          have H := HC17.out
          clear HC17
          by_cases c18 : t191 = 0
          · rw [if_pos c18] at H
            have c18b0 : (t191 == 0) = true := beq_iff_eq.mpr c18
            have c18b1 : (t191 != 0) = false := bne_eq_false_iff_eq.mpr c18
            clear c18
            (first | rw [c18b0] | (simp only [i64_w, i32_w]; rw [c18b0]) | skip)
            replace H := Option.bind_eq_some_iff.mp H
            obtain ⟨⟨t200, t201⟩, A190, H⟩ := H
            replace H : (if t200 = a0 then (if t201 = 0 then (cambistlaw01_CoinUndoes.j1 kj8 a0 a1 t189 t194 t195 t196 t197) else (none)) else (none)) = some r := H
            have A19 := Aside0.mk A190
            clear A190
            by_cases c20 : t200 = a0
            · rw [if_pos c20] at H
              have c20b0 : (t200 == a0) = true := beq_iff_eq.mpr c20
              have c20b1 : (t200 != a0) = false := bne_eq_false_iff_eq.mpr c20
              clear c20
              by_cases c21 : t201 = 0
              · rw [if_pos c21] at H
                have c21b0 : (t201 == 0) = true := beq_iff_eq.mpr c21
                have c21b1 : (t201 != 0) = false := bne_eq_false_iff_eq.mpr c21
                clear c21
                have H' := Aside0.mk H
                clear H
                go_wp2_with (first | ((with_reducible refine gate_callee (f := 14) rfl ?_); refine goesL_ (some 74) rfl rfl Tryd.func14 (by kernel_rfl) rfl #[.int .i64 t190, .int .i64 a1] rfl (by (try simp only [List.map_toArray, List.map_cons, List.map_nil]); first | done | rfl | (simp only [List.length_drop, List.length_take]; rfl)) ?_; (with_reducible refine (coin_Sub.calls t190 a1 t200 t201 _ ?side1 A19.out).mono ?_); (case side1 => exact Glob.below HG.out (by repeat (first | (with_reducible first | exact HB.out | apply below_alloc | apply pw_below_drewN | apply below_drew1) | exact HB.out))); rintro e w' ⟨rfl, ⟨nd, rfl⟩⟩; refine ⟨_, rfl, ?_⟩))
                go_meet
                case rel => exact ⟨_, H', ⟨by have := HJ8.out; first | omega | exact Nat.le_refl _⟩, ⟨by repeat (first | (with_reducible first | exact HB.out | apply below_alloc | apply pw_below_drewN | apply below_drew1) | exact HB.out)⟩⟩
              · rw [if_neg c21] at H
                exact absurd H (by simp)
            · rw [if_neg c20] at H
              exact absurd H (by simp)
          · rw [if_neg c18] at H
            have c18b0 : (t191 == 0) = false := beq_eq_false_iff_ne.mpr c18
            have c18b1 : (t191 != 0) = true := bne_iff_ne.mpr c18
            (first | rw [c18b0] | (simp only [i64_w, i32_w]; rw [c18b0]) | skip)
            have H' := Aside0.mk H
            clear H
            go_wp2
            go_meet
            case rel => exact ⟨_, H', ⟨by have := HJ8.out; first | omega | exact Nat.le_refl _⟩, ⟨by repeat (first | (with_reducible first | exact HB.out | apply below_alloc | apply pw_below_drewN | apply below_drew1) | exact HB.out)⟩⟩
        case rest =>
          clear HC17
          try clear c1
          try clear c2
          try clear p2
          try clear c8
          try clear c11
          try clear c12
          try clear c13
          try clear c13b0
          try clear c13b1
          try clear c14
          try clear c14b0
          try clear c14b1
          try clear c15
          try clear c15b0
          try clear c15b1
          try clear c16
          try clear c18
          try clear c18b0
          try clear c18b1
          try clear c20
          try clear c20b0
          try clear c20b1
          try clear c21
          try clear c21b0
          try clear c21b1
          try clear p2
          obtain ⟨kq, HA, HJ16, HB⟩ := hcut
          cases kq with
          | zero => exact absurd HA.out (by simp [cambistlaw01_CoinUndoes.j1])
          | succ kj16 =>
            have H := HA.out
            clear HA
            simp only [cambistlaw01_CoinUndoes.j1] at H
            by_cases c22 : t195 = 0
            · rw [if_pos c22] at H
              have c22b0 : (t195 == 0) = true := beq_iff_eq.mpr c22
              have c22b1 : (t195 != 0) = false := bne_eq_false_iff_eq.mpr c22
              clear c22
              replace H := Option.bind_eq_some_iff.mp H
              obtain ⟨⟨t202, t203⟩, A230, H⟩ := H
              replace H : (if t202 = a0 then (if t203 = 0 then (if t189 = true then (if t197 = 0 then (if a1 = 0 then (some true) else (if a1 = (-1) then (some true) else (some ((wrap64 (Int.tdiv t196 a1)) == a0)))) else (some true)) else (none)) else (none)) else (none)) = some r := H
              have A23 := Aside0.mk A230
              clear A230
              by_cases c24 : t202 = a0
              · rw [if_pos c24] at H
                have c24b0 : (t202 == a0) = true := beq_iff_eq.mpr c24
                have c24b1 : (t202 != a0) = false := bne_eq_false_iff_eq.mpr c24
                clear c24
                by_cases c25 : t203 = 0
                · rw [if_pos c25] at H
                  have c25b0 : (t203 == 0) = true := beq_iff_eq.mpr c25
                  have c25b1 : (t203 != 0) = false := bne_eq_false_iff_eq.mpr c25
                  clear c25
                  by_cases c26 : t189 = true
                  · subst c26
                    have H1 : (if t197 = 0 then (if a1 = 0 then (some true) else (if a1 = (-1) then (some true) else (some ((wrap64 (Int.tdiv t196 a1)) == a0)))) else (some true)) = some r := by rw [if_pos rfl] at H; exact H
                    clear H
                    have H := H1
                    clear H1
                    by_cases c27 : t197 = 0
                    · rw [if_pos c27] at H
                      have c27b0 : (t197 == 0) = true := beq_iff_eq.mpr c27
                      have c27b1 : (t197 != 0) = false := bne_eq_false_iff_eq.mpr c27
                      clear c27
                      by_cases c28 : a1 = 0
                      · rw [if_pos c28] at H
                        have c28b0 : (a1 == 0) = true := beq_iff_eq.mpr c28
                        have c28b1 : (a1 != 0) = false := bne_eq_false_iff_eq.mpr c28
                        clear c28
                        obtain rfl := Option.some.inj H
                        go_wp2_with (first | ((with_reducible refine gate_callee (f := 12) rfl ?_); refine goesL_ (some 89) rfl rfl Tryd.func12 (by kernel_rfl) rfl #[.int .i64 t194, .int .i64 a1] rfl (by (try simp only [List.map_toArray, List.map_cons, List.map_nil]); first | done | rfl | (simp only [List.length_drop, List.length_take]; rfl)) ?_; (with_reducible refine (coin_Add.calls t194 a1 t202 t203 _ ?side1 A23.out).mono ?_); (case side1 => exact Glob.below HG.out (by repeat (first | (with_reducible first | exact HB.out | apply below_alloc | apply pw_below_drewN | apply below_drew1) | exact HB.out))); rintro e w' ⟨rfl, ⟨nd, rfl⟩⟩; refine ⟨_, rfl, ?_⟩))
                        go_ret
                        exact ⟨by first | rfl | (simp [errW_none, errW_some] <;> rfl) | (simp [*, errW_none, errW_some] <;> rfl), by repeat (first | (with_reducible first | exact HB.out | apply below_alloc | apply pw_below_drewN | apply below_drew1) | exact HB.out)⟩
                      · rw [if_neg c28] at H
                        have c28b0 : (a1 == 0) = false := beq_eq_false_iff_ne.mpr c28
                        have c28b1 : (a1 != 0) = true := bne_iff_ne.mpr c28
                        by_cases c29 : a1 = (-1)
                        · rw [if_pos c29] at H
                          have c29b0 : (a1 == (-1)) = true := beq_iff_eq.mpr c29
                          have c29b1 : (a1 != (-1)) = false := bne_eq_false_iff_eq.mpr c29
                          clear c29
                          obtain rfl := Option.some.inj H
                          go_wp2_with (first | ((with_reducible refine gate_callee (f := 12) rfl ?_); refine goesL_ (some 89) rfl rfl Tryd.func12 (by kernel_rfl) rfl #[.int .i64 t194, .int .i64 a1] rfl (by (try simp only [List.map_toArray, List.map_cons, List.map_nil]); first | done | rfl | (simp only [List.length_drop, List.length_take]; rfl)) ?_; (with_reducible refine (coin_Add.calls t194 a1 t202 t203 _ ?side1 A23.out).mono ?_); (case side1 => exact Glob.below HG.out (by repeat (first | (with_reducible first | exact HB.out | apply below_alloc | apply pw_below_drewN | apply below_drew1) | exact HB.out))); rintro e w' ⟨rfl, ⟨nd, rfl⟩⟩; refine ⟨_, rfl, ?_⟩))
                          go_ret
                          exact ⟨by first | rfl | (simp [errW_none, errW_some] <;> rfl) | (simp [*, errW_none, errW_some] <;> rfl), by repeat (first | (with_reducible first | exact HB.out | apply below_alloc | apply pw_below_drewN | apply below_drew1) | exact HB.out)⟩
                        · rw [if_neg c29] at H
                          have c29b0 : (a1 == (-1)) = false := beq_eq_false_iff_ne.mpr c29
                          have c29b1 : (a1 != (-1)) = true := bne_iff_ne.mpr c29
                          obtain rfl := Option.some.inj H
                          go_wp2_with (first | ((with_reducible refine gate_callee (f := 12) rfl ?_); refine goesL_ (some 89) rfl rfl Tryd.func12 (by kernel_rfl) rfl #[.int .i64 t194, .int .i64 a1] rfl (by (try simp only [List.map_toArray, List.map_cons, List.map_nil]); first | done | rfl | (simp only [List.length_drop, List.length_take]; rfl)) ?_; (with_reducible refine (coin_Add.calls t194 a1 t202 t203 _ ?side1 A23.out).mono ?_); (case side1 => exact Glob.below HG.out (by repeat (first | (with_reducible first | exact HB.out | apply below_alloc | apply pw_below_drewN | apply below_drew1) | exact HB.out))); rintro e w' ⟨rfl, ⟨nd, rfl⟩⟩; refine ⟨_, rfl, ?_⟩))
                          go_ret
                          exact ⟨by first | rfl | (simp [errW_none, errW_some] <;> rfl) | (simp [*, errW_none, errW_some] <;> rfl), by repeat (first | (with_reducible first | exact HB.out | apply below_alloc | apply pw_below_drewN | apply below_drew1) | exact HB.out)⟩
                    · rw [if_neg c27] at H
                      have c27b0 : (t197 == 0) = false := beq_eq_false_iff_ne.mpr c27
                      have c27b1 : (t197 != 0) = true := bne_iff_ne.mpr c27
                      obtain rfl := Option.some.inj H
                      go_wp2_with (first | ((with_reducible refine gate_callee (f := 12) rfl ?_); refine goesL_ (some 89) rfl rfl Tryd.func12 (by kernel_rfl) rfl #[.int .i64 t194, .int .i64 a1] rfl (by (try simp only [List.map_toArray, List.map_cons, List.map_nil]); first | done | rfl | (simp only [List.length_drop, List.length_take]; rfl)) ?_; (with_reducible refine (coin_Add.calls t194 a1 t202 t203 _ ?side1 A23.out).mono ?_); (case side1 => exact Glob.below HG.out (by repeat (first | (with_reducible first | exact HB.out | apply below_alloc | apply pw_below_drewN | apply below_drew1) | exact HB.out))); rintro e w' ⟨rfl, ⟨nd, rfl⟩⟩; refine ⟨_, rfl, ?_⟩))
                      go_ret
                      exact ⟨by first | rfl | (simp [errW_none, errW_some] <;> rfl) | (simp [*, errW_none, errW_some] <;> rfl), by repeat (first | (with_reducible first | exact HB.out | apply below_alloc | apply pw_below_drewN | apply below_drew1) | exact HB.out)⟩
                  · replace c26 := Bool.eq_false_iff.mpr c26
                    subst c26
                    have H1 : (none) = some r := by rw [if_neg (show ¬ (false = true) by decide)] at H; exact H
                    clear H
                    have H := H1
                    clear H1
                    exact absurd H (by simp)
                · rw [if_neg c25] at H
                  exact absurd H (by simp)
              · rw [if_neg c24] at H
                exact absurd H (by simp)
            · rw [if_neg c22] at H
              have c22b0 : (t195 == 0) = false := beq_eq_false_iff_ne.mpr c22
              have c22b1 : (t195 != 0) = true := bne_iff_ne.mpr c22
              by_cases c30 : t189 = true
              · subst c30
                have H1 : (if t197 = 0 then (if a1 = 0 then (some true) else (if a1 = (-1) then (some true) else (some ((wrap64 (Int.tdiv t196 a1)) == a0)))) else (some true)) = some r := by rw [if_pos rfl] at H; exact H
                clear H
                have H := H1
                clear H1
                by_cases c31 : t197 = 0
                · rw [if_pos c31] at H
                  have c31b0 : (t197 == 0) = true := beq_iff_eq.mpr c31
                  have c31b1 : (t197 != 0) = false := bne_eq_false_iff_eq.mpr c31
                  clear c31
                  by_cases c32 : a1 = 0
                  · rw [if_pos c32] at H
                    have c32b0 : (a1 == 0) = true := beq_iff_eq.mpr c32
                    have c32b1 : (a1 != 0) = false := bne_eq_false_iff_eq.mpr c32
                    clear c32
                    obtain rfl := Option.some.inj H
                    go_wp2
                    go_ret
                    exact ⟨by first | rfl | (simp [errW_none, errW_some] <;> rfl) | (simp [*, errW_none, errW_some] <;> rfl), by repeat (first | (with_reducible first | exact HB.out | apply below_alloc | apply pw_below_drewN | apply below_drew1) | exact HB.out)⟩
                  · rw [if_neg c32] at H
                    have c32b0 : (a1 == 0) = false := beq_eq_false_iff_ne.mpr c32
                    have c32b1 : (a1 != 0) = true := bne_iff_ne.mpr c32
                    by_cases c33 : a1 = (-1)
                    · rw [if_pos c33] at H
                      have c33b0 : (a1 == (-1)) = true := beq_iff_eq.mpr c33
                      have c33b1 : (a1 != (-1)) = false := bne_eq_false_iff_eq.mpr c33
                      clear c33
                      obtain rfl := Option.some.inj H
                      go_wp2
                      go_ret
                      exact ⟨by first | rfl | (simp [errW_none, errW_some] <;> rfl) | (simp [*, errW_none, errW_some] <;> rfl), by repeat (first | (with_reducible first | exact HB.out | apply below_alloc | apply pw_below_drewN | apply below_drew1) | exact HB.out)⟩
                    · rw [if_neg c33] at H
                      have c33b0 : (a1 == (-1)) = false := beq_eq_false_iff_ne.mpr c33
                      have c33b1 : (a1 != (-1)) = true := bne_iff_ne.mpr c33
                      obtain rfl := Option.some.inj H
                      go_wp2
                      go_ret
                      exact ⟨by first | rfl | (simp [errW_none, errW_some] <;> rfl) | (simp [*, errW_none, errW_some] <;> rfl), by repeat (first | (with_reducible first | exact HB.out | apply below_alloc | apply pw_below_drewN | apply below_drew1) | exact HB.out)⟩
                · rw [if_neg c31] at H
                  have c31b0 : (t197 == 0) = false := beq_eq_false_iff_ne.mpr c31
                  have c31b1 : (t197 != 0) = true := bne_iff_ne.mpr c31
                  obtain rfl := Option.some.inj H
                  go_wp2
                  go_ret
                  exact ⟨by first | rfl | (simp [errW_none, errW_some] <;> rfl) | (simp [*, errW_none, errW_some] <;> rfl), by repeat (first | (with_reducible first | exact HB.out | apply below_alloc | apply pw_below_drewN | apply below_drew1) | exact HB.out)⟩
              · replace c30 := Bool.eq_false_iff.mpr c30
                subst c30
                have H1 : (none) = some r := by rw [if_neg (show ¬ (false = true) by decide)] at H; exact H
                clear H
                have H := H1
                clear H1
                exact absurd H (by simp)

end Go.Proofs.YtajgkmpjjdihdaaDoor.P
