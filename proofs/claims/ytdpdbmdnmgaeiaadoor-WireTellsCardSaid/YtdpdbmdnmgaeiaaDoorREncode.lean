/- The walk of cambistref20.Encode: it answers as wire.Encode. -/
import Derived.Test.YtdpdbmdnmgaeiaaDoorEncode
import Derived.Test.YtdpdbmdnmgaeiaaDoorDecPure
import Derived.Test.YtdpdbmdnmgaeiaaDoorRC
import Derived.Test.YtdpdbmdnmgaeiaaDoorRefA
import Derived.Test.YtdpdbmdnmgaeiaaDoorPx1
import Derived.Test.YtdpdbmdnmgaeiaaDoorPx2
namespace Go.Proofs.YtdpdbmdnmgaeiaaDoor.E
open Go.RowKit Go.Proofs.YtdpdbmdnmgaeiaaDoor.P Go.Proofs.YtdpdbmdnmgaeiaaDoorW.PrintWords Go.Proofs.YtdpdbmdnmgaeiaaDoorW.PrintLast
def renc4_T : Bool × List (List Nat × List Nat) := (true, [([], []), ([0], [0]), ([], []), ([2], [2]), ([], []), ([4], [4]), ([], []), ([6], [6]), ([], []), ([8], [8]), ([9], [9]), ([], []), ([11], [11]), ([12, 10], [12]), ([], []), ([14], [14]), ([15, 13], [15]), ([1, 3, 5, 7, 10, 13, 16], [1, 3, 5, 7, 10, 13, 16]), ([], []), ([18, 17, 16, 0, 1, 2, 3, 4, 5, 6, 7, 8, 9, 10, 11, 12, 13, 14, 15, 16, 17, 18], [17, 18])])
def renc4_B : List Nat := [0, 1, 0, 4, 0, 16, 0, 64, 0, 256, 768, 0, 2048, 7936, 0, 16384, 65280, 131071, 0, 524287]
theorem renc4_tab : rtab .any (opsOf Tryd.f12 4) = renc4_T := by kernel_rfl
theorem renc4_bits : waitsOk renc4_T.2 renc4_B = true := by kernel_rfl
theorem CG.setRow {w W : World} {g : Nat} {cs hs cs' old : Array Value} {gr t : Nat} (h : CG w g cs hs W) (h0 : Glob w) (hg : W.heap[gr]? = some (.cells old t (0, 0))) (hge : w.heap.size ≤ gr) (h1 : t ≠ 25) (h2 : t ≠ 46) : CG w g cs hs (W.setRow gr cs') :=
  ⟨(setRow_other _ _ _ _ (blk_ne h.blk1 hg (Ne.symm h1))).trans h.blk1, (setRow_other _ _ _ _ (blk_ne h.blk2 hg (Ne.symm h2))).trans h.blk2, below_setRow h.below hge _, h0.below (below_setRow h.below hge _)⟩
theorem ref_first {k : Int} (hk : 1 ≤ k ∧ k ≤ 13) : cambistref20_First.f k = some (firstOf k) := by
  rcases kind_cases (a := k) (by omega) with rfl | rfl | rfl | rfl | rfl | rfl | rfl | rfl | rfl | rfl | rfl | rfl | rfl | rfl <;> first | omega | kernel_rfl
set_option maxHeartbeats 16000000 in
set_option maxRecDepth 100000 in
set_option linter.unusedSimpArgs false in
theorem ref_Encode_ok (a0_0 : Int) (a0_1 : ByteArray) (a0_2 : ByteArray) (a0_3 : ByteArray) (a0_4 : ByteArray) (a0_5 : Int) (a0_6 : Int) (a0_7 : Int) (w : World) (hG : Glob w) (hs : fewS a0_1 a0_2 a0_3 a0_4) (h7 : 0 ≤ a0_7) (hok : okCmd a0_0 a0_1 a0_2 a0_3 a0_4 a0_5 a0_6 a0_7 = true) :
    Calls Tryd.prog 12 #[.agg #[.int .i64 a0_0, .string a0_1, .string a0_2, .string a0_3, .string a0_4, .int .i64 a0_5, .int .i64 a0_6, .int .u64 a0_7]] w (EncRet w (encB a0_0 a0_1 a0_2 a0_3 a0_4 a0_5 a0_6 a0_7) 0) := by
  obtain ⟨hk, h5, h6, h7'⟩ := ok_numbers hok
  have HC : Hid (∀ W, Glob W → Calls Tryd.prog 16 #[.agg #[.int .i64 a0_0, .string a0_1, .string a0_2, .string a0_3, .string a0_4, .int .i64 a0_5, .int .i64 a0_6, .int .u64 a0_7]] W fun e w' => e = .returned (.int .i64 0) ∧ Below W.heap.size W w') := Lib.hid fun W hW => cambistref20_Check.calls _ _ _ _ _ _ _ _ 0 W hW (by unfold cambistref20_Check.f wire_Check.f; rw [if_pos hs, hok]; rfl)
  obtain ⟨k4, hk4⟩ := Ev.rounds (ref_text h5)
  obtain ⟨k5, hk5⟩ := Ev.rounds (ref_text h6)
  obtain ⟨k6, hk6⟩ := Ev.rounds (ref_dec a0_7.toNat (by omega))
  rw [Int.toNat_of_nonneg h7] at hk6
  obtain ⟨x4, hx4⟩ : ∃ x : ByteArray, x = ⟨(intText a0_5).toArray⟩ := ⟨_, rfl⟩
  obtain ⟨x5, hx5⟩ : ∃ x : ByteArray, x = ⟨(intText a0_6).toArray⟩ := ⟨_, rfl⟩
  obtain ⟨x6, hx6⟩ : ∃ x : ByteArray, x = ⟨(decText a0_7.toNat).toArray⟩ := ⟨_, rfl⟩
  rw [← hx4] at hk4; rw [← hx5] at hk5; rw [← hx6] at hk6
  have HT4 : Hid (∀ W, Glob W → Calls Tryd.prog 25 #[.int .i64 a0_5] W fun e w' => e = .returned (.string x4) ∧ Below W.heap.size W w') := Lib.hid fun W hW => cambistref01_Text.calls k4 a0_5 x4 W hW hk4
  have HT5 : Hid (∀ W, Glob W → Calls Tryd.prog 25 #[.int .i64 a0_6] W fun e w' => e = .returned (.string x5) ∧ Below W.heap.size W w') := Lib.hid fun W hW => cambistref01_Text.calls k5 a0_6 x5 W hW hk5
  have HT6 : Hid (∀ W, Glob W → Calls Tryd.prog 26 #[.int .u64 a0_7] W fun e w' => e = .returned (.string x6) ∧ Below W.heap.size W w') := Lib.hid fun W hW => cambistref19_Decimal.calls k6 a0_7 x6 W hW hk6
  have HW0 : ∀ n, wordOf a0_1 a0_2 a0_3 a0_4 a0_5 a0_6 a0_7 n = wd7 a0_1 a0_2 a0_3 a0_4 x4 x5 x6 n := fun n => by rw [word_wd7, hx4, hx5, hx6]
  obtain ⟨tt, htt⟩ : ∃ f : Nat → ByteArray, f = textTo a0_0 a0_1 a0_2 a0_3 a0_4 a0_5 a0_6 a0_7 := ⟨_, rfl⟩
  have HTT : Hid (∀ n, tt (n + 1) = if hasW a0_0 n then tt n ++ ⟨#[32]⟩ ++ wd7 a0_1 a0_2 a0_3 a0_4 x4 x5 x6 n else tt n) := Lib.hid (fun n => by rw [← HW0 n, htt]; rfl)
  have HTS : Hid (∀ n, n ≤ 7 → (tt n).size ≤ 1000) := Lib.hid (fun n hn => by
    rw [htt]
    have h1 := text_size hok h7 n hn
    have h2 : ∀ m, m ≤ 7 → bd a0_0 m ≤ 200 := fun m hm => by
      have hc : m = 0 ∨ m = 1 ∨ m = 2 ∨ m = 3 ∨ m = 4 ∨ m = 5 ∨ m = 6 ∨ m = 7 := by omega
      rcases kind_cases (a := a0_0) (by omega) with rfl | rfl | rfl | rfl | rfl | rfl | rfl | rfl | rfl | rfl | rfl | rfl | rfl | rfl <;> rcases hc with rfl | rfl | rfl | rfl | rfl | rfl | rfl | rfl <;> decide +kernel
    have := h2 n hn
    omega)
  have HWS : Hid (∀ n, n < 7 → hasW a0_0 n = true → (wd7 a0_1 a0_2 a0_3 a0_4 x4 x5 x6 n).size ≤ 100) := Lib.hid (fun n hn hh => by
    rw [← HW0 n]
    have h1 := (word_good hok h7 hn hh).2.2
    have h2 : mx n ≤ 100 := by
      have hc : n = 0 ∨ n = 1 ∨ n = 2 ∨ n = 3 ∨ n = 4 ∨ n = 5 ∨ n = 6 := by omega
      rcases hc with rfl | rfl | rfl | rfl | rfl | rfl | rfl <;> decide
    omega)
  have HFI : Hid (∀ W, Glob W → Calls Tryd.prog 27 #[.int .i64 a0_0] W fun e w' => e = .returned (.string (tt 0)) ∧ Below W.heap.size W w') := Lib.hid fun W hW => by rw [htt]; exact cambistref20_First.calls a0_0 _ W hW (ref_first hk)
  have HE7 : Hid (encB a0_0 a0_1 a0_2 a0_3 a0_4 a0_5 a0_6 a0_7 = tt 7) := Lib.hid (by rw [htt]; rfl)
  obtain ⟨h0, hh0⟩ : ∃ b, hasW a0_0 0 = b := ⟨_, rfl⟩
  obtain ⟨h1, hh1⟩ : ∃ b, hasW a0_0 1 = b := ⟨_, rfl⟩
  obtain ⟨h2, hh2⟩ : ∃ b, hasW a0_0 2 = b := ⟨_, rfl⟩
  obtain ⟨h3, hh3⟩ : ∃ b, hasW a0_0 3 = b := ⟨_, rfl⟩
  obtain ⟨h4, hh4⟩ : ∃ b, hasW a0_0 4 = b := ⟨_, rfl⟩
  obtain ⟨h5_, hh5⟩ : ∃ b, hasW a0_0 5 = b := ⟨_, rfl⟩
  obtain ⟨h6_, hh6⟩ : ∃ b, hasW a0_0 6 = b := ⟨_, rfl⟩
  have HH : Hid (∀ W, Calls Tryd.prog 24 #[.int .i64 a0_0] W fun e w' => e = .returned (.agg #[.bool h0, .bool h1, .bool h2, .bool h3, .bool h4, .bool h5_, .bool h6_]) ∧ Below W.heap.size W w') := Lib.hid fun W => (ref_has_calls a0_0 (by omega) W).mono (by rintro e w' ⟨rfl, hb⟩; exact ⟨by rw [← hh0, ← hh1, ← hh2, ← hh3, ← hh4, ← hh5, ← hh6]; rfl, hb⟩)
  have Hh0 := Lib.hid hh0; have Hh1 := Lib.hid hh1; have Hh2 := Lib.hid hh2; have Hh3 := Lib.hid hh3; have Hh4 := Lib.hid hh4; have Hh5 := Lib.hid hh5; have Hh6 := Lib.hid hh6
  clear hh0 hh1 hh2 hh3 hh4 hh5 hh6
  have hci := CI.start (cs := #[.int .i64 a0_0, .string a0_1, .string a0_2, .string a0_3, .string a0_4, .int .i64 a0_5, .int .i64 a0_6, .int .u64 a0_7]) hG
  have HG := Lib.hid hG
  rw [HE7.out]
  clear hG hs h7 hok hk h5 h6 h7' hk4 hk5 hk6 hx4 hx5 hx6 HW0 htt
  go_enter Tryd.func12, Tryd.ntmps12
  go_upto_region 4 with (first | (go_at_call 16; refine (HC.out _ hci.glob).mono ?_; rintro e w1 ⟨rfl, hb⟩; replace hci := hci.step hb; clear hb; have c0 := blk_cell hci.blk 0; have c1 := blk_cell hci.blk 1; have c2 := blk_cell hci.blk 2; have c3 := blk_cell hci.blk 3; have c4 := blk_cell hci.blk 4; have c5 := blk_cell hci.blk 5; have c6 := blk_cell hci.blk 6; have c7 := blk_cell hci.blk 7; simp only [List.getElem?_toArray, List.getElem?_cons_zero, List.getElem?_cons_succ] at c0 c1 c2 c3 c4 c5 c6 c7) | (go_at_call 24; refine (HH.out _).mono ?_; rintro e w2 ⟨rfl, hb⟩; replace hci := hci.step hb; clear hb; have hcg := CG.start (hs := #[.bool h0, .bool h1, .bool h2, .bool h3, .bool h4, .bool h5_, .bool h6_]) hci; clear hci; have c0 := blk_cell hcg.blk1 0; have c1 := blk_cell hcg.blk1 1; have c2 := blk_cell hcg.blk1 2; have c3 := blk_cell hcg.blk1 3; have c4 := blk_cell hcg.blk1 4; have c5 := blk_cell hcg.blk1 5; have c6 := blk_cell hcg.blk1 6; have c7 := blk_cell hcg.blk1 7; have e0 := blk_cell hcg.blk2 0; have e1 := blk_cell hcg.blk2 1; have e2 := blk_cell hcg.blk2 2; have e3 := blk_cell hcg.blk2 3; have e4 := blk_cell hcg.blk2 4; have e5 := blk_cell hcg.blk2 5; have e6 := blk_cell hcg.blk2 6; simp only [List.getElem?_toArray, List.getElem?_cons_zero, List.getElem?_cons_succ] at c0 c1 c2 c3 c4 c5 c6 c7 e0 e1 e2 e3 e4 e5 e6))
  have HCG := Lib.hid hcg; clear hcg HC HH
  clear c0 c1 c2 c3 c4 c5 c6 c7 e0 e1 e2 e3 e4 e5 e6
  go_cut [5] (fun v5 wc => ∃ g2, v5 = .pointer (some ⟨g2, 0, none⟩) ∧ Hid (wc.heap[g2]? = some (.cells #[.string a0_1, .string a0_2, .string a0_3, .string a0_4, .string x4, .string x5, .string x6] 43 (0, 0))) ∧ Hid (CG w w2.heap.size #[.int .i64 a0_0, .string a0_1, .string a0_2, .string a0_3, .string a0_4, .int .i64 a0_5, .int .i64 a0_6, .int .u64 a0_7] #[.bool h0, .bool h1, .bool h2, .bool h3, .bool h4, .bool h5_, .bool h6_] wc))
  case first =>
    have hcg := HCG.out.step (below_drew1 (Below.refl _ _))
    clear HCG
    try go_wp2
    refine start_ (n := 20) (S := fun w' => w'.cell? ⟨w.heap.size, 0, none⟩ = some (.int .i64 a0_0) ∧ w'.cell? ⟨w.heap.size, 1, none⟩ = some (.string a0_1) ∧ w'.cell? ⟨w.heap.size, 2, none⟩ = some (.string a0_2) ∧ w'.cell? ⟨w.heap.size, 3, none⟩ = some (.string a0_3) ∧ w'.cell? ⟨w.heap.size, 4, none⟩ = some (.string a0_4) ∧ w'.cell? ⟨w.heap.size, 5, none⟩ = some (.int .i64 a0_5) ∧ w'.cell? ⟨w.heap.size, 6, none⟩ = some (.int .i64 a0_6) ∧ w'.cell? ⟨w.heap.size, 7, none⟩ = some (.int .u64 a0_7)) (ds := []) #[false, false, false, false, false, false, false, false, false, false, false, false, false, false, false, false, false, false, false, false] (by kernel_rfl) rfl rfl ⟨(blk_cell hcg.blk1 0).trans rfl, (blk_cell hcg.blk1 1).trans rfl, (blk_cell hcg.blk1 2).trans rfl, (blk_cell hcg.blk1 3).trans rfl, (blk_cell hcg.blk1 4).trans rfl, (blk_cell hcg.blk1 5).trans rfl, (blk_cell hcg.blk1 6).trans rfl, (blk_cell hcg.blk1 7).trans rfl⟩ (fun hHeld => ?_); refine with_tabW renc4_tab renc4_bits (fun HT_ HW_ => ?_)
    generalize (w2.alloc (.cells #[.bool h0, .bool h1, .bool h2, .bool h3, .bool h4, .bool h5_, .bool h6_] 46)).drew = w3 at hcg hHeld ⊢
    (refine pure_ (i := 0) (N := some 14) (v := ?_) (a' := ?_) (fl_ 20 1) rfl rfl (any_of HT_.out (by kernel_rfl)) (fun _ _ _ h => h) (Or.inl ⟨by rfl, ?_⟩) ?_ ?_; rotate_left; (· (intro w'; go_simp; with_reducible rfl)); rotate_left; (· (simp only [Act.put, List.setIfInBounds_toArray, List.set_cons_zero, List.set_cons_succ, i64_w, i32_w]; rfl)))
    (refine pure_ (i := 2) (N := some 16) (v := ?_) (a' := ?_) (fl_ 20 5) rfl rfl (any_of HT_.out (by kernel_rfl)) (fun _ _ _ h => h) (Or.inl ⟨by rfl, ?_⟩) ?_ ?_; rotate_left; (· (intro w'; go_simp; with_reducible rfl)); rotate_left; (· (simp only [Act.put, List.setIfInBounds_toArray, List.set_cons_zero, List.set_cons_succ, i64_w, i32_w]; rfl)))
    (refine pure_ (i := 4) (N := some 18) (v := ?_) (a' := ?_) (fl_ 20 21) rfl rfl (any_of HT_.out (by kernel_rfl)) (fun _ _ _ h => h) (Or.inl ⟨by rfl, ?_⟩) ?_ ?_; rotate_left; (· (intro w'; go_simp; with_reducible rfl)); rotate_left; (· (simp only [Act.put, List.setIfInBounds_toArray, List.set_cons_zero, List.set_cons_succ, i64_w, i32_w]; rfl)))
    (refine pure_ (i := 6) (N := some 20) (v := ?_) (a' := ?_) (fl_ 20 85) rfl rfl (any_of HT_.out (by kernel_rfl)) (fun _ _ _ h => h) (Or.inl ⟨by rfl, ?_⟩) ?_ ?_; rotate_left; (· (intro w'; go_simp; with_reducible rfl)); rotate_left; (· (simp only [Act.put, List.setIfInBounds_toArray, List.set_cons_zero, List.set_cons_succ, i64_w, i32_w]; rfl)))
    (refine pure_ (i := 8) (N := some 22) (v := ?_) (a' := ?_) (fl_ 20 341) rfl rfl (any_of HT_.out (by kernel_rfl)) (fun _ _ _ h => h) (Or.inl ⟨by rfl, ?_⟩) ?_ ?_; rotate_left; (· (intro w'; go_simp; with_reducible rfl)); rotate_left; (· (simp only [Act.put, List.setIfInBounds_toArray, List.set_cons_zero, List.set_cons_succ, i64_w, i32_w]; rfl)))
    (refine pure_ (i := 11) (N := some 25) (v := ?_) (a' := ?_) (fl_ 20 2389) rfl rfl (any_of HT_.out (by kernel_rfl)) (fun _ _ _ h => h) (Or.inl ⟨by rfl, ?_⟩) ?_ ?_; rotate_left; (· (intro w'; go_simp; with_reducible rfl)); rotate_left; (· (simp only [Act.put, List.setIfInBounds_toArray, List.set_cons_zero, List.set_cons_succ, i64_w, i32_w]; rfl)))
    (refine pure_ (i := 14) (N := some 28) (v := ?_) (a' := ?_) (fl_ 20 18773) rfl rfl (any_of HT_.out (by kernel_rfl)) (fun _ _ _ h => h) (Or.inl ⟨by rfl, ?_⟩) ?_ ?_; rotate_left; (· (intro w'; go_simp; with_reducible rfl)); rotate_left; (· (simp only [Act.put, List.setIfInBounds_toArray, List.set_cons_zero, List.set_cons_succ, i64_w, i32_w]; rfl)))
    (refine take_ (i := 1) (N := some 15) (v := ?_) (a' := ?_) (fl_ 20 18775) rfl rfl (take_ofW HT_.out HW_.out (by kernel_rfl)) (fun _ _ _ h => h) (Or.inl ⟨by rfl, ?_⟩) hHeld ?_ ?_; rotate_left; (· (rintro w' ⟨s0, s1, s2, s3, s4, s5, s6, s7⟩; go_simp; with_reducible rfl)); rotate_left; (· (simp only [Act.put, List.setIfInBounds_toArray, List.set_cons_zero, List.set_cons_succ, i64_w, i32_w]; rfl)))
    (refine take_ (i := 3) (N := some 17) (v := ?_) (a' := ?_) (fl_ 20 18783) rfl rfl (take_ofW HT_.out HW_.out (by kernel_rfl)) (fun _ _ _ h => h) (Or.inl ⟨by rfl, ?_⟩) hHeld ?_ ?_; rotate_left; (· (rintro w' ⟨s0, s1, s2, s3, s4, s5, s6, s7⟩; go_simp; with_reducible rfl)); rotate_left; (· (simp only [Act.put, List.setIfInBounds_toArray, List.set_cons_zero, List.set_cons_succ, i64_w, i32_w]; rfl)))
    (refine take_ (i := 5) (N := some 19) (v := ?_) (a' := ?_) (fl_ 20 18815) rfl rfl (take_ofW HT_.out HW_.out (by kernel_rfl)) (fun _ _ _ h => h) (Or.inl ⟨by rfl, ?_⟩) hHeld ?_ ?_; rotate_left; (· (rintro w' ⟨s0, s1, s2, s3, s4, s5, s6, s7⟩; go_simp; with_reducible rfl)); rotate_left; (· (simp only [Act.put, List.setIfInBounds_toArray, List.set_cons_zero, List.set_cons_succ, i64_w, i32_w]; rfl)))
    (refine take_ (i := 7) (N := some 21) (v := ?_) (a' := ?_) (fl_ 20 18943) rfl rfl (take_ofW HT_.out HW_.out (by kernel_rfl)) (fun _ _ _ h => h) (Or.inl ⟨by rfl, ?_⟩) hHeld ?_ ?_; rotate_left; (· (rintro w' ⟨s0, s1, s2, s3, s4, s5, s6, s7⟩; go_simp; with_reducible rfl)); rotate_left; (· (simp only [Act.put, List.setIfInBounds_toArray, List.set_cons_zero, List.set_cons_succ, i64_w, i32_w]; rfl)))
    (refine take_ (i := 9) (N := some 23) (v := ?_) (a' := ?_) (fl_ 20 19455) rfl rfl (take_ofW HT_.out HW_.out (by kernel_rfl)) (fun _ _ _ h => h) (Or.inl ⟨by rfl, ?_⟩) hHeld ?_ ?_; rotate_left; (· (rintro w' ⟨s0, s1, s2, s3, s4, s5, s6, s7⟩; go_simp; with_reducible rfl)); rotate_left; (· (simp only [Act.put, List.setIfInBounds_toArray, List.set_cons_zero, List.set_cons_succ, i64_w, i32_w]; rfl)))
    (refine take_ (i := 12) (N := some 26) (v := ?_) (a' := ?_) (fl_ 20 23551) rfl rfl (take_ofW HT_.out HW_.out (by kernel_rfl)) (fun _ _ _ h => h) (Or.inl ⟨by rfl, ?_⟩) hHeld ?_ ?_; rotate_left; (· (rintro w' ⟨s0, s1, s2, s3, s4, s5, s6, s7⟩; go_simp; with_reducible rfl)); rotate_left; (· (simp only [Act.put, List.setIfInBounds_toArray, List.set_cons_zero, List.set_cons_succ, i64_w, i32_w]; rfl)))
    (refine take_ (i := 15) (N := some 29) (v := ?_) (a' := ?_) (fl_ 20 56319) rfl rfl (take_ofW HT_.out HW_.out (by kernel_rfl)) (fun _ _ _ h => h) (Or.inl ⟨by rfl, ?_⟩) hHeld ?_ ?_; rotate_left; (· (rintro w' ⟨s0, s1, s2, s3, s4, s5, s6, s7⟩; go_simp; with_reducible rfl)); rotate_left; (· (simp only [Act.put, List.setIfInBounds_toArray, List.set_cons_zero, List.set_cons_succ, i64_w, i32_w]; rfl)))
    refine join_ (σ := Nat) 1 (fl_ 20 524287) (fun g2 => [(24, .string x4), (27, .string x5), (30, .string x6), (31, .agg #[.string a0_1, .string a0_2, .string a0_3, .string a0_4, .string x4, .string x5, .string x6]), (5, .pointer (some ⟨g2, 0, none⟩))]) (fun g2 W => W.heap[g2]? = some (.cells #[.string ⟨#[]⟩, .string ⟨#[]⟩, .string ⟨#[]⟩, .string ⟨#[]⟩, .string ⟨#[]⟩, .string ⟨#[]⟩, .string ⟨#[]⟩] 43 (0, 0)) ∧ w.heap.size ≤ g2 ∧ CG w w2.heap.size #[.int .i64 a0_0, .string a0_1, .string a0_2, .string a0_3, .string a0_4, .int .i64 a0_5, .int .i64 a0_6, .int .u64 a0_7] #[.bool h0, .bool h1, .bool h2, .bool h3, .bool h4, .bool h5_, .bool h6_] W) ?_ ?_
    rotate_left
    · intro hCont
      refine two_ (i := 10) (j := 18) (Ni := some 24) (Nj := some 5) (fl_ 20 57343) (fl_ 20 318463) rfl rfl rfl rfl (two_of HT_.out (by kernel_rfl)) (by decide) (by decide) (fun K hK => ?_) (fun K hK => ?_)
      · skip
        refine goes_ Tryd.func25 (by kernel_rfl) rfl #[.int .i64 a0_5] (by rfl) rfl rfl (by (try simp only [List.map_toArray, List.map_cons, List.map_nil]); first | done | rfl) ?_
        refine (HT4.out _ hcg.glob).mono ?_
        rintro e w4 ⟨rfl, hb⟩
        refine ⟨_, rfl, ?_⟩
        try have hgz := blk_below hgz hb
        have hcg := hcg.step hb
        refine hK.out _ _ ⟨(blk_cell hcg.blk1 0).trans rfl, (blk_cell hcg.blk1 1).trans rfl, (blk_cell hcg.blk1 2).trans rfl, (blk_cell hcg.blk1 3).trans rfl, (blk_cell hcg.blk1 4).trans rfl, (blk_cell hcg.blk1 5).trans rfl, (blk_cell hcg.blk1 6).trans rfl, (blk_cell hcg.blk1 7).trans rfl⟩ (fun hHeld => ?_)
        clear hK K
        refine norm_ (a' := ?_) ?_ ?_; rotate_left; (· (show Act.put _ (some 24) _ = _; simp only [Act.put, List.setIfInBounds_toArray, List.set_cons_zero, List.set_cons_succ, i64_w, i32_w]; rfl))
        refine two_ (i := 13) (j := 18) (Ni := some 27) (Nj := some 5) (fl_ 20 65535) (fl_ 20 319487) rfl rfl rfl rfl (two_of HT_.out (by kernel_rfl)) (by decide) (by decide) (fun K hK => ?_) (fun K hK => ?_)
        · skip
          refine goes_ Tryd.func25 (by kernel_rfl) rfl #[.int .i64 a0_6] (by rfl) rfl rfl (by (try simp only [List.map_toArray, List.map_cons, List.map_nil]); first | done | rfl) ?_
          refine (HT5.out _ hcg.glob).mono ?_
          rintro e w5 ⟨rfl, hb⟩
          refine ⟨_, rfl, ?_⟩
          try have hgz := blk_below hgz hb
          have hcg := hcg.step hb
          refine hK.out _ _ ⟨(blk_cell hcg.blk1 0).trans rfl, (blk_cell hcg.blk1 1).trans rfl, (blk_cell hcg.blk1 2).trans rfl, (blk_cell hcg.blk1 3).trans rfl, (blk_cell hcg.blk1 4).trans rfl, (blk_cell hcg.blk1 5).trans rfl, (blk_cell hcg.blk1 6).trans rfl, (blk_cell hcg.blk1 7).trans rfl⟩ (fun hHeld => ?_)
          clear hK K
          refine norm_ (a' := ?_) ?_ ?_; rotate_left; (· (show Act.put _ (some 27) _ = _; simp only [Act.put, List.setIfInBounds_toArray, List.set_cons_zero, List.set_cons_succ, i64_w, i32_w]; rfl))
          refine two_ (i := 16) (j := 18) (Ni := some 30) (Nj := some 5) (fl_ 20 131071) (fl_ 20 327679) rfl rfl rfl rfl (two_of HT_.out (by kernel_rfl)) (by decide) (by decide) (fun K hK => ?_) (fun K hK => ?_)
          · skip
            refine goes_ Tryd.func26 (by kernel_rfl) rfl #[.int .u64 a0_7] (by rfl) rfl rfl (by (try simp only [List.map_toArray, List.map_cons, List.map_nil]); first | done | rfl) ?_
            refine (HT6.out _ hcg.glob).mono ?_
            rintro e w6 ⟨rfl, hb⟩
            refine ⟨_, rfl, ?_⟩
            try have hgz := blk_below hgz hb
            have hcg := hcg.step hb
            refine hK.out _ _ ⟨(blk_cell hcg.blk1 0).trans rfl, (blk_cell hcg.blk1 1).trans rfl, (blk_cell hcg.blk1 2).trans rfl, (blk_cell hcg.blk1 3).trans rfl, (blk_cell hcg.blk1 4).trans rfl, (blk_cell hcg.blk1 5).trans rfl, (blk_cell hcg.blk1 6).trans rfl, (blk_cell hcg.blk1 7).trans rfl⟩ (fun hHeld => ?_)
            clear hK K
            refine norm_ (a' := ?_) ?_ ?_; rotate_left; (· (show Act.put _ (some 30) _ = _; simp only [Act.put, List.setIfInBounds_toArray, List.set_cons_zero, List.set_cons_succ, i64_w, i32_w]; rfl))
            (refine pure_ (i := 17) (N := some 31) (v := ?_) (a' := ?_) (fl_ 20 262143) rfl rfl (any_of HT_.out (by kernel_rfl)) (fun _ _ _ h => h) (Or.inl ⟨by rfl, ?_⟩) ?_ ?_; rotate_left; (· (intro w'; go_simp; with_reducible rfl)); rotate_left; (· (simp only [Act.put, List.setIfInBounds_toArray, List.set_cons_zero, List.set_cons_succ, i64_w, i32_w]; rfl)))
            refine one_ (i := 18) (N := some 5) (fl_ 20 524287) rfl rfl (one_of HT_.out (by kernel_rfl)) (by decide) (fun K hK => ?_)
            refine alloc_step (by rfl) (cs := #[.string ⟨#[]⟩, .string ⟨#[]⟩, .string ⟨#[]⟩, .string ⟨#[]⟩, .string ⟨#[]⟩, .string ⟨#[]⟩, .string ⟨#[]⟩]) (e := 43) ?hr ?_
            case hr => first | (go_simp; done) | (go_simp; rfl)
            have hge := hcg.below.size
            have hgz := heap_alloc_new w6 (.cells #[.string ⟨#[]⟩, .string ⟨#[]⟩, .string ⟨#[]⟩, .string ⟨#[]⟩, .string ⟨#[]⟩, .string ⟨#[]⟩, .string ⟨#[]⟩] 43)
            have hcg' := hcg.step (below_alloc (Below.refl _ _) (.cells #[.string ⟨#[]⟩, .string ⟨#[]⟩, .string ⟨#[]⟩, .string ⟨#[]⟩, .string ⟨#[]⟩, .string ⟨#[]⟩, .string ⟨#[]⟩] 43))
            clear hcg
            have hcg := hcg'
            clear hcg'
            refine hK.out _ _ ⟨(blk_cell hcg.blk1 0).trans rfl, (blk_cell hcg.blk1 1).trans rfl, (blk_cell hcg.blk1 2).trans rfl, (blk_cell hcg.blk1 3).trans rfl, (blk_cell hcg.blk1 4).trans rfl, (blk_cell hcg.blk1 5).trans rfl, (blk_cell hcg.blk1 6).trans rfl, (blk_cell hcg.blk1 7).trans rfl⟩ (fun hHeld => ?_)
            clear hK K
            refine norm_ (a' := ?_) ?_ ?_; rotate_left; (· (show Act.put _ (some 5) _ = _; simp only [Act.put, List.setIfInBounds_toArray, List.set_cons_zero, List.set_cons_succ, i64_w, i32_w]; rfl))
            exact norm_ (by simp only [putAll, Act.put, List.setIfInBounds_toArray, List.set_cons_zero, List.set_cons_succ]) (hCont _ _ ⟨hgz, hge, hcg⟩)
          · skip
            refine alloc_step (by rfl) (cs := #[.string ⟨#[]⟩, .string ⟨#[]⟩, .string ⟨#[]⟩, .string ⟨#[]⟩, .string ⟨#[]⟩, .string ⟨#[]⟩, .string ⟨#[]⟩]) (e := 43) ?hr ?_
            case hr => first | (go_simp; done) | (go_simp; rfl)
            have hge := hcg.below.size
            have hgz := heap_alloc_new w5 (.cells #[.string ⟨#[]⟩, .string ⟨#[]⟩, .string ⟨#[]⟩, .string ⟨#[]⟩, .string ⟨#[]⟩, .string ⟨#[]⟩, .string ⟨#[]⟩] 43)
            have hcg' := hcg.step (below_alloc (Below.refl _ _) (.cells #[.string ⟨#[]⟩, .string ⟨#[]⟩, .string ⟨#[]⟩, .string ⟨#[]⟩, .string ⟨#[]⟩, .string ⟨#[]⟩, .string ⟨#[]⟩] 43))
            clear hcg
            have hcg := hcg'
            clear hcg'
            refine hK.out _ _ ⟨(blk_cell hcg.blk1 0).trans rfl, (blk_cell hcg.blk1 1).trans rfl, (blk_cell hcg.blk1 2).trans rfl, (blk_cell hcg.blk1 3).trans rfl, (blk_cell hcg.blk1 4).trans rfl, (blk_cell hcg.blk1 5).trans rfl, (blk_cell hcg.blk1 6).trans rfl, (blk_cell hcg.blk1 7).trans rfl⟩ (fun hHeld => ?_)
            clear hK K
            refine norm_ (a' := ?_) ?_ ?_; rotate_left; (· (show Act.put _ (some 5) _ = _; simp only [Act.put, List.setIfInBounds_toArray, List.set_cons_zero, List.set_cons_succ, i64_w, i32_w]; rfl))
            refine one_ (i := 16) (N := some 30) (fl_ 20 393215) rfl rfl (one_of HT_.out (by kernel_rfl)) (by decide) (fun K hK => ?_)
            refine goes_ Tryd.func26 (by kernel_rfl) rfl #[.int .u64 a0_7] (by rfl) rfl rfl (by (try simp only [List.map_toArray, List.map_cons, List.map_nil]); first | done | rfl) ?_
            refine (HT6.out _ hcg.glob).mono ?_
            rintro e w6 ⟨rfl, hb⟩
            refine ⟨_, rfl, ?_⟩
            try have hgz := blk_below hgz hb
            have hcg := hcg.step hb
            refine hK.out _ _ ⟨(blk_cell hcg.blk1 0).trans rfl, (blk_cell hcg.blk1 1).trans rfl, (blk_cell hcg.blk1 2).trans rfl, (blk_cell hcg.blk1 3).trans rfl, (blk_cell hcg.blk1 4).trans rfl, (blk_cell hcg.blk1 5).trans rfl, (blk_cell hcg.blk1 6).trans rfl, (blk_cell hcg.blk1 7).trans rfl⟩ (fun hHeld => ?_)
            clear hK K
            refine norm_ (a' := ?_) ?_ ?_; rotate_left; (· (show Act.put _ (some 30) _ = _; simp only [Act.put, List.setIfInBounds_toArray, List.set_cons_zero, List.set_cons_succ, i64_w, i32_w]; rfl))
            (refine pure_ (i := 17) (N := some 31) (v := ?_) (a' := ?_) (fl_ 20 524287) rfl rfl (any_of HT_.out (by kernel_rfl)) (fun _ _ _ h => h) (Or.inl ⟨by rfl, ?_⟩) ?_ ?_; rotate_left; (· (intro w'; go_simp; with_reducible rfl)); rotate_left; (· (simp only [Act.put, List.setIfInBounds_toArray, List.set_cons_zero, List.set_cons_succ, i64_w, i32_w]; rfl)))
            exact norm_ (by simp only [putAll, Act.put, List.setIfInBounds_toArray, List.set_cons_zero, List.set_cons_succ]) (hCont _ _ ⟨hgz, hge, hcg⟩)
        · skip
          refine alloc_step (by rfl) (cs := #[.string ⟨#[]⟩, .string ⟨#[]⟩, .string ⟨#[]⟩, .string ⟨#[]⟩, .string ⟨#[]⟩, .string ⟨#[]⟩, .string ⟨#[]⟩]) (e := 43) ?hr ?_
          case hr => first | (go_simp; done) | (go_simp; rfl)
          have hge := hcg.below.size
          have hgz := heap_alloc_new w4 (.cells #[.string ⟨#[]⟩, .string ⟨#[]⟩, .string ⟨#[]⟩, .string ⟨#[]⟩, .string ⟨#[]⟩, .string ⟨#[]⟩, .string ⟨#[]⟩] 43)
          have hcg' := hcg.step (below_alloc (Below.refl _ _) (.cells #[.string ⟨#[]⟩, .string ⟨#[]⟩, .string ⟨#[]⟩, .string ⟨#[]⟩, .string ⟨#[]⟩, .string ⟨#[]⟩, .string ⟨#[]⟩] 43))
          clear hcg
          have hcg := hcg'
          clear hcg'
          refine hK.out _ _ ⟨(blk_cell hcg.blk1 0).trans rfl, (blk_cell hcg.blk1 1).trans rfl, (blk_cell hcg.blk1 2).trans rfl, (blk_cell hcg.blk1 3).trans rfl, (blk_cell hcg.blk1 4).trans rfl, (blk_cell hcg.blk1 5).trans rfl, (blk_cell hcg.blk1 6).trans rfl, (blk_cell hcg.blk1 7).trans rfl⟩ (fun hHeld => ?_)
          clear hK K
          refine norm_ (a' := ?_) ?_ ?_; rotate_left; (· (show Act.put _ (some 5) _ = _; simp only [Act.put, List.setIfInBounds_toArray, List.set_cons_zero, List.set_cons_succ, i64_w, i32_w]; rfl))
          refine one_ (i := 13) (N := some 27) (fl_ 20 327679) rfl rfl (one_of HT_.out (by kernel_rfl)) (by decide) (fun K hK => ?_)
          refine goes_ Tryd.func25 (by kernel_rfl) rfl #[.int .i64 a0_6] (by rfl) rfl rfl (by (try simp only [List.map_toArray, List.map_cons, List.map_nil]); first | done | rfl) ?_
          refine (HT5.out _ hcg.glob).mono ?_
          rintro e w5 ⟨rfl, hb⟩
          refine ⟨_, rfl, ?_⟩
          try have hgz := blk_below hgz hb
          have hcg := hcg.step hb
          refine hK.out _ _ ⟨(blk_cell hcg.blk1 0).trans rfl, (blk_cell hcg.blk1 1).trans rfl, (blk_cell hcg.blk1 2).trans rfl, (blk_cell hcg.blk1 3).trans rfl, (blk_cell hcg.blk1 4).trans rfl, (blk_cell hcg.blk1 5).trans rfl, (blk_cell hcg.blk1 6).trans rfl, (blk_cell hcg.blk1 7).trans rfl⟩ (fun hHeld => ?_)
          clear hK K
          refine norm_ (a' := ?_) ?_ ?_; rotate_left; (· (show Act.put _ (some 27) _ = _; simp only [Act.put, List.setIfInBounds_toArray, List.set_cons_zero, List.set_cons_succ, i64_w, i32_w]; rfl))
          refine one_ (i := 16) (N := some 30) (fl_ 20 393215) rfl rfl (one_of HT_.out (by kernel_rfl)) (by decide) (fun K hK => ?_)
          refine goes_ Tryd.func26 (by kernel_rfl) rfl #[.int .u64 a0_7] (by rfl) rfl rfl (by (try simp only [List.map_toArray, List.map_cons, List.map_nil]); first | done | rfl) ?_
          refine (HT6.out _ hcg.glob).mono ?_
          rintro e w6 ⟨rfl, hb⟩
          refine ⟨_, rfl, ?_⟩
          try have hgz := blk_below hgz hb
          have hcg := hcg.step hb
          refine hK.out _ _ ⟨(blk_cell hcg.blk1 0).trans rfl, (blk_cell hcg.blk1 1).trans rfl, (blk_cell hcg.blk1 2).trans rfl, (blk_cell hcg.blk1 3).trans rfl, (blk_cell hcg.blk1 4).trans rfl, (blk_cell hcg.blk1 5).trans rfl, (blk_cell hcg.blk1 6).trans rfl, (blk_cell hcg.blk1 7).trans rfl⟩ (fun hHeld => ?_)
          clear hK K
          refine norm_ (a' := ?_) ?_ ?_; rotate_left; (· (show Act.put _ (some 30) _ = _; simp only [Act.put, List.setIfInBounds_toArray, List.set_cons_zero, List.set_cons_succ, i64_w, i32_w]; rfl))
          (refine pure_ (i := 17) (N := some 31) (v := ?_) (a' := ?_) (fl_ 20 524287) rfl rfl (any_of HT_.out (by kernel_rfl)) (fun _ _ _ h => h) (Or.inl ⟨by rfl, ?_⟩) ?_ ?_; rotate_left; (· (intro w'; go_simp; with_reducible rfl)); rotate_left; (· (simp only [Act.put, List.setIfInBounds_toArray, List.set_cons_zero, List.set_cons_succ, i64_w, i32_w]; rfl)))
          exact norm_ (by simp only [putAll, Act.put, List.setIfInBounds_toArray, List.set_cons_zero, List.set_cons_succ]) (hCont _ _ ⟨hgz, hge, hcg⟩)
      · skip
        refine alloc_step (by rfl) (cs := #[.string ⟨#[]⟩, .string ⟨#[]⟩, .string ⟨#[]⟩, .string ⟨#[]⟩, .string ⟨#[]⟩, .string ⟨#[]⟩, .string ⟨#[]⟩]) (e := 43) ?hr ?_
        case hr => first | (go_simp; done) | (go_simp; rfl)
        have hge := hcg.below.size
        have hgz := heap_alloc_new w3 (.cells #[.string ⟨#[]⟩, .string ⟨#[]⟩, .string ⟨#[]⟩, .string ⟨#[]⟩, .string ⟨#[]⟩, .string ⟨#[]⟩, .string ⟨#[]⟩] 43)
        have hcg' := hcg.step (below_alloc (Below.refl _ _) (.cells #[.string ⟨#[]⟩, .string ⟨#[]⟩, .string ⟨#[]⟩, .string ⟨#[]⟩, .string ⟨#[]⟩, .string ⟨#[]⟩, .string ⟨#[]⟩] 43))
        clear hcg
        have hcg := hcg'
        clear hcg'
        refine hK.out _ _ ⟨(blk_cell hcg.blk1 0).trans rfl, (blk_cell hcg.blk1 1).trans rfl, (blk_cell hcg.blk1 2).trans rfl, (blk_cell hcg.blk1 3).trans rfl, (blk_cell hcg.blk1 4).trans rfl, (blk_cell hcg.blk1 5).trans rfl, (blk_cell hcg.blk1 6).trans rfl, (blk_cell hcg.blk1 7).trans rfl⟩ (fun hHeld => ?_)
        clear hK K
        refine norm_ (a' := ?_) ?_ ?_; rotate_left; (· (show Act.put _ (some 5) _ = _; simp only [Act.put, List.setIfInBounds_toArray, List.set_cons_zero, List.set_cons_succ, i64_w, i32_w]; rfl))
        refine one_ (i := 10) (N := some 24) (fl_ 20 319487) rfl rfl (one_of HT_.out (by kernel_rfl)) (by decide) (fun K hK => ?_)
        refine goes_ Tryd.func25 (by kernel_rfl) rfl #[.int .i64 a0_5] (by rfl) rfl rfl (by (try simp only [List.map_toArray, List.map_cons, List.map_nil]); first | done | rfl) ?_
        refine (HT4.out _ hcg.glob).mono ?_
        rintro e w4 ⟨rfl, hb⟩
        refine ⟨_, rfl, ?_⟩
        try have hgz := blk_below hgz hb
        have hcg := hcg.step hb
        refine hK.out _ _ ⟨(blk_cell hcg.blk1 0).trans rfl, (blk_cell hcg.blk1 1).trans rfl, (blk_cell hcg.blk1 2).trans rfl, (blk_cell hcg.blk1 3).trans rfl, (blk_cell hcg.blk1 4).trans rfl, (blk_cell hcg.blk1 5).trans rfl, (blk_cell hcg.blk1 6).trans rfl, (blk_cell hcg.blk1 7).trans rfl⟩ (fun hHeld => ?_)
        clear hK K
        refine norm_ (a' := ?_) ?_ ?_; rotate_left; (· (show Act.put _ (some 24) _ = _; simp only [Act.put, List.setIfInBounds_toArray, List.set_cons_zero, List.set_cons_succ, i64_w, i32_w]; rfl))
        refine one_ (i := 13) (N := some 27) (fl_ 20 327679) rfl rfl (one_of HT_.out (by kernel_rfl)) (by decide) (fun K hK => ?_)
        refine goes_ Tryd.func25 (by kernel_rfl) rfl #[.int .i64 a0_6] (by rfl) rfl rfl (by (try simp only [List.map_toArray, List.map_cons, List.map_nil]); first | done | rfl) ?_
        refine (HT5.out _ hcg.glob).mono ?_
        rintro e w5 ⟨rfl, hb⟩
        refine ⟨_, rfl, ?_⟩
        try have hgz := blk_below hgz hb
        have hcg := hcg.step hb
        refine hK.out _ _ ⟨(blk_cell hcg.blk1 0).trans rfl, (blk_cell hcg.blk1 1).trans rfl, (blk_cell hcg.blk1 2).trans rfl, (blk_cell hcg.blk1 3).trans rfl, (blk_cell hcg.blk1 4).trans rfl, (blk_cell hcg.blk1 5).trans rfl, (blk_cell hcg.blk1 6).trans rfl, (blk_cell hcg.blk1 7).trans rfl⟩ (fun hHeld => ?_)
        clear hK K
        refine norm_ (a' := ?_) ?_ ?_; rotate_left; (· (show Act.put _ (some 27) _ = _; simp only [Act.put, List.setIfInBounds_toArray, List.set_cons_zero, List.set_cons_succ, i64_w, i32_w]; rfl))
        refine one_ (i := 16) (N := some 30) (fl_ 20 393215) rfl rfl (one_of HT_.out (by kernel_rfl)) (by decide) (fun K hK => ?_)
        refine goes_ Tryd.func26 (by kernel_rfl) rfl #[.int .u64 a0_7] (by rfl) rfl rfl (by (try simp only [List.map_toArray, List.map_cons, List.map_nil]); first | done | rfl) ?_
        refine (HT6.out _ hcg.glob).mono ?_
        rintro e w6 ⟨rfl, hb⟩
        refine ⟨_, rfl, ?_⟩
        try have hgz := blk_below hgz hb
        have hcg := hcg.step hb
        refine hK.out _ _ ⟨(blk_cell hcg.blk1 0).trans rfl, (blk_cell hcg.blk1 1).trans rfl, (blk_cell hcg.blk1 2).trans rfl, (blk_cell hcg.blk1 3).trans rfl, (blk_cell hcg.blk1 4).trans rfl, (blk_cell hcg.blk1 5).trans rfl, (blk_cell hcg.blk1 6).trans rfl, (blk_cell hcg.blk1 7).trans rfl⟩ (fun hHeld => ?_)
        clear hK K
        refine norm_ (a' := ?_) ?_ ?_; rotate_left; (· (show Act.put _ (some 30) _ = _; simp only [Act.put, List.setIfInBounds_toArray, List.set_cons_zero, List.set_cons_succ, i64_w, i32_w]; rfl))
        (refine pure_ (i := 17) (N := some 31) (v := ?_) (a' := ?_) (fl_ 20 524287) rfl rfl (any_of HT_.out (by kernel_rfl)) (fun _ _ _ h => h) (Or.inl ⟨by rfl, ?_⟩) ?_ ?_; rotate_left; (· (intro w'; go_simp; with_reducible rfl)); rotate_left; (· (simp only [Act.put, List.setIfInBounds_toArray, List.set_cons_zero, List.set_cons_succ, i64_w, i32_w]; rfl)))
        exact norm_ (by simp only [putAll, Act.put, List.setIfInBounds_toArray, List.set_cons_zero, List.set_cons_succ]) (hCont _ _ ⟨hgz, hge, hcg⟩)
    rintro g2 w9 ⟨hgz, hge, hcg⟩
    refine norm_ (a' := ?_) ?_ ?_; rotate_left; (· (simp only [putAll, Act.put, List.setIfInBounds_toArray, List.set_cons_zero, List.set_cons_succ]; rfl))
    refine one_ (i := 19) (N := none) (fl_ 20 1048575) rfl rfl (one_of HT_.out (by kernel_rfl)) (by decide) (fun K hK => ?_)
    refine store_row_step (by rfl) rfl rfl g2 rfl #[.string a0_1, .string a0_2, .string a0_3, .string a0_4, .string x4, .string x5, .string x6] rfl hgz (by kernel_rfl) rfl (by first | kernel_rfl | simp [Value.oneCell']) ?_
    have hcg' := CG.setRow (cs' := #[.string a0_1, .string a0_2, .string a0_3, .string a0_4, .string x4, .string x5, .string x6]) hcg HG.out hgz hge (by decide) (by decide)
    have hgw := setRow_heap _ _ _ (#[.string a0_1, .string a0_2, .string a0_3, .string a0_4, .string x4, .string x5, .string x6] : Array Value) _ _ hgz
    clear hcg
    have hcg := hcg'
    clear hcg'
    refine hK.out _ _ ⟨(blk_cell hcg.blk1 0).trans rfl, (blk_cell hcg.blk1 1).trans rfl, (blk_cell hcg.blk1 2).trans rfl, (blk_cell hcg.blk1 3).trans rfl, (blk_cell hcg.blk1 4).trans rfl, (blk_cell hcg.blk1 5).trans rfl, (blk_cell hcg.blk1 6).trans rfl, (blk_cell hcg.blk1 7).trans rfl⟩ (fun hHeld => ?_)
    clear hK K
    refine done_ (done_of HT_.out (by kernel_rfl)) ?_
    try go_wp2
    go_meet
    case rel => exact ⟨g2, rfl, Lib.hid hgw, Lib.hid hcg⟩
  case rest =>
    clear HCG HT4 HT5 HT6
    obtain ⟨g2, rfl, HB2, HCG⟩ := hcut
    have c0 : wc.cell? ⟨w.heap.size, 0, none⟩ = some (.int .i64 a0_0) := (blk_cell HCG.out.blk1 0).trans rfl
    go_wp2_with (go_at_call 27; refine (HFI.out _ HCG.out.glob).mono ?_; rintro e w5 ⟨rfl, hb⟩; have HB5 := Lib.hid (blk_below HB2.out hb); have HCG5 := Lib.hid (HCG.out.step hb); clear hb HB2 HCG)
    clear c0
    obtain ⟨gh, hgh⟩ : ∃ g, g = w2.heap.size := ⟨_, rfl⟩
    rw [← hgh] at HCG5 ⊢
    clear hgh
    go_loop [6, 7] (fun v6 i => ∃ k : Nat, k ≤ 7 ∧ i = .int .i64 k ∧ v6 = .string (tt k)) (fun _ i => 7 - (intOf i).toNat)
    case atStart => exact ⟨0, Nat.zero_le _, rfl, rfl⟩
    case round =>
      obtain ⟨k, hk, rfl, rfl⟩ := hrel
      have hkc : k = 7 ∨ k = 0 ∨ k = 1 ∨ k = 2 ∨ k = 3 ∨ k = 4 ∨ k = 5 ∨ k = 6 := by omega
      clear hk
      rcases hkc with rfl | rfl | rfl | rfl | rfl | rfl | rfl | rfl
      · have kb := fun W => print_bytes (P := Tryd.prog) 9 26 5 Tryd.underlying9 Tryd.underlying26 Tryd.underlying5 (tt 7) W
        go_wp2
        go_ret2
        refine ⟨some ⟨w5.heap.size, 0, none⟩, grownCap w5 (tt 7).size 0 5, by rw [bytesOf_length]; rfl, ?_, ?_, ?_⟩
        · rw [bytesOf_length]; exact grownCap_ge w5 (tt 7).size 0 _
        · rw [bytesOf_length]; exact Kd.C_of_reads (enc := Value.int .u8) (d := (0 : Int)) (h1 := fun _ => rfl) (bytes_reads w5 _ (tt 7) (by have := HTS.out 7 (by omega); omega))
        · have h5 := HCG5.out.below; exact h5.trans ⟨rfl, rfl, rfl, by rw [Lib.bytesWorld_size]; omega, fun i hi => Lib.bytesWorld_at_old w5 _ (tt 7) i (by have := h5.size; omega)⟩
      · have htn := HTT.out 0; rw [Hh0.out] at htn
        have hws := HWS.out 0 (by omega); rw [Hh0.out] at hws
        have hts := HTS.out 0 (by omega)
        have d0 : w5.cell? ⟨gh, 0, none⟩ = some (.bool h0) := (blk_cell HCG5.out.blk2 0).trans rfl
        have d1 : w5.cell? ⟨g2, 0, none⟩ = some (.string a0_1) := (blk_cell HB5.out 0).trans rfl
        obtain ⟨s, hsd⟩ : ∃ s, tt 0 = s := ⟨_, rfl⟩
        rw [hsd] at htn hts ⊢
        have HTN := Lib.hid htn; clear htn hsd
        cases h0 with
        | true =>
          have hw1 : (a0_1).size ≤ 100 := hws rfl
          have z1 : (9223372036854775807 < s.size + 1) = False := eq_false (by omega)
          have z2 : (9223372036854775807 < s.size + 1 + (a0_1).size) = False := eq_false (by omega)
          clear hws hts hw1
          go_wp2
          go_round
          case rel => exact ⟨1, by omega, by go_num, by rw [HTN.out]; rfl⟩
          case measure => simp [intOf]
        | false =>
          clear hws hts
          go_wp2
          go_round
          case rel => exact ⟨1, by omega, by go_num, by rw [HTN.out]; rfl⟩
          case measure => simp [intOf]
      · have htn := HTT.out 1; rw [Hh1.out] at htn
        have hws := HWS.out 1 (by omega); rw [Hh1.out] at hws
        have hts := HTS.out 1 (by omega)
        have d0 : w5.cell? ⟨gh, 1, none⟩ = some (.bool h1) := (blk_cell HCG5.out.blk2 1).trans rfl
        have d1 : w5.cell? ⟨g2, 1, none⟩ = some (.string a0_2) := (blk_cell HB5.out 1).trans rfl
        obtain ⟨s, hsd⟩ : ∃ s, tt 1 = s := ⟨_, rfl⟩
        rw [hsd] at htn hts ⊢
        have HTN := Lib.hid htn; clear htn hsd
        cases h1 with
        | true =>
          have hw1 : (a0_2).size ≤ 100 := hws rfl
          have z1 : (9223372036854775807 < s.size + 1) = False := eq_false (by omega)
          have z2 : (9223372036854775807 < s.size + 1 + (a0_2).size) = False := eq_false (by omega)
          clear hws hts hw1
          go_wp2
          go_round
          case rel => exact ⟨2, by omega, by go_num, by rw [HTN.out]; rfl⟩
          case measure => simp [intOf]
        | false =>
          clear hws hts
          go_wp2
          go_round
          case rel => exact ⟨2, by omega, by go_num, by rw [HTN.out]; rfl⟩
          case measure => simp [intOf]
      · have htn := HTT.out 2; rw [Hh2.out] at htn
        have hws := HWS.out 2 (by omega); rw [Hh2.out] at hws
        have hts := HTS.out 2 (by omega)
        have d0 : w5.cell? ⟨gh, 2, none⟩ = some (.bool h2) := (blk_cell HCG5.out.blk2 2).trans rfl
        have d1 : w5.cell? ⟨g2, 2, none⟩ = some (.string a0_3) := (blk_cell HB5.out 2).trans rfl
        obtain ⟨s, hsd⟩ : ∃ s, tt 2 = s := ⟨_, rfl⟩
        rw [hsd] at htn hts ⊢
        have HTN := Lib.hid htn; clear htn hsd
        cases h2 with
        | true =>
          have hw1 : (a0_3).size ≤ 100 := hws rfl
          have z1 : (9223372036854775807 < s.size + 1) = False := eq_false (by omega)
          have z2 : (9223372036854775807 < s.size + 1 + (a0_3).size) = False := eq_false (by omega)
          clear hws hts hw1
          go_wp2
          go_round
          case rel => exact ⟨3, by omega, by go_num, by rw [HTN.out]; rfl⟩
          case measure => simp [intOf]
        | false =>
          clear hws hts
          go_wp2
          go_round
          case rel => exact ⟨3, by omega, by go_num, by rw [HTN.out]; rfl⟩
          case measure => simp [intOf]
      · have htn := HTT.out 3; rw [Hh3.out] at htn
        have hws := HWS.out 3 (by omega); rw [Hh3.out] at hws
        have hts := HTS.out 3 (by omega)
        have d0 : w5.cell? ⟨gh, 3, none⟩ = some (.bool h3) := (blk_cell HCG5.out.blk2 3).trans rfl
        have d1 : w5.cell? ⟨g2, 3, none⟩ = some (.string a0_4) := (blk_cell HB5.out 3).trans rfl
        obtain ⟨s, hsd⟩ : ∃ s, tt 3 = s := ⟨_, rfl⟩
        rw [hsd] at htn hts ⊢
        have HTN := Lib.hid htn; clear htn hsd
        cases h3 with
        | true =>
          have hw1 : (a0_4).size ≤ 100 := hws rfl
          have z1 : (9223372036854775807 < s.size + 1) = False := eq_false (by omega)
          have z2 : (9223372036854775807 < s.size + 1 + (a0_4).size) = False := eq_false (by omega)
          clear hws hts hw1
          go_wp2
          go_round
          case rel => exact ⟨4, by omega, by go_num, by rw [HTN.out]; rfl⟩
          case measure => simp [intOf]
        | false =>
          clear hws hts
          go_wp2
          go_round
          case rel => exact ⟨4, by omega, by go_num, by rw [HTN.out]; rfl⟩
          case measure => simp [intOf]
      · have htn := HTT.out 4; rw [Hh4.out] at htn
        have hws := HWS.out 4 (by omega); rw [Hh4.out] at hws
        have hts := HTS.out 4 (by omega)
        have d0 : w5.cell? ⟨gh, 4, none⟩ = some (.bool h4) := (blk_cell HCG5.out.blk2 4).trans rfl
        have d1 : w5.cell? ⟨g2, 4, none⟩ = some (.string x4) := (blk_cell HB5.out 4).trans rfl
        obtain ⟨s, hsd⟩ : ∃ s, tt 4 = s := ⟨_, rfl⟩
        rw [hsd] at htn hts ⊢
        have HTN := Lib.hid htn; clear htn hsd
        cases h4 with
        | true =>
          have hw1 : (x4).size ≤ 100 := hws rfl
          have z1 : (9223372036854775807 < s.size + 1) = False := eq_false (by omega)
          have z2 : (9223372036854775807 < s.size + 1 + (x4).size) = False := eq_false (by omega)
          clear hws hts hw1
          go_wp2
          go_round
          case rel => exact ⟨5, by omega, by go_num, by rw [HTN.out]; rfl⟩
          case measure => simp [intOf]
        | false =>
          clear hws hts
          go_wp2
          go_round
          case rel => exact ⟨5, by omega, by go_num, by rw [HTN.out]; rfl⟩
          case measure => simp [intOf]
      · have htn := HTT.out 5; rw [Hh5.out] at htn
        have hws := HWS.out 5 (by omega); rw [Hh5.out] at hws
        have hts := HTS.out 5 (by omega)
        have d0 : w5.cell? ⟨gh, 5, none⟩ = some (.bool h5_) := (blk_cell HCG5.out.blk2 5).trans rfl
        have d1 : w5.cell? ⟨g2, 5, none⟩ = some (.string x5) := (blk_cell HB5.out 5).trans rfl
        obtain ⟨s, hsd⟩ : ∃ s, tt 5 = s := ⟨_, rfl⟩
        rw [hsd] at htn hts ⊢
        have HTN := Lib.hid htn; clear htn hsd
        cases h5_ with
        | true =>
          have hw1 : (x5).size ≤ 100 := hws rfl
          have z1 : (9223372036854775807 < s.size + 1) = False := eq_false (by omega)
          have z2 : (9223372036854775807 < s.size + 1 + (x5).size) = False := eq_false (by omega)
          clear hws hts hw1
          go_wp2
          go_round
          case rel => exact ⟨6, by omega, by go_num, by rw [HTN.out]; rfl⟩
          case measure => simp [intOf]
        | false =>
          clear hws hts
          go_wp2
          go_round
          case rel => exact ⟨6, by omega, by go_num, by rw [HTN.out]; rfl⟩
          case measure => simp [intOf]
      · have htn := HTT.out 6; rw [Hh6.out] at htn
        have hws := HWS.out 6 (by omega); rw [Hh6.out] at hws
        have hts := HTS.out 6 (by omega)
        have d0 : w5.cell? ⟨gh, 6, none⟩ = some (.bool h6_) := (blk_cell HCG5.out.blk2 6).trans rfl
        have d1 : w5.cell? ⟨g2, 6, none⟩ = some (.string x6) := (blk_cell HB5.out 6).trans rfl
        obtain ⟨s, hsd⟩ : ∃ s, tt 6 = s := ⟨_, rfl⟩
        rw [hsd] at htn hts ⊢
        have HTN := Lib.hid htn; clear htn hsd
        cases h6_ with
        | true =>
          have hw1 : (x6).size ≤ 100 := hws rfl
          have z1 : (9223372036854775807 < s.size + 1) = False := eq_false (by omega)
          have z2 : (9223372036854775807 < s.size + 1 + (x6).size) = False := eq_false (by omega)
          clear hws hts hw1
          go_wp2
          go_round
          case rel => exact ⟨7, by omega, by go_num, by rw [HTN.out]; rfl⟩
          case measure => simp [intOf]
        | false =>
          clear hws hts
          go_wp2
          go_round
          case rel => exact ⟨7, by omega, by go_num, by rw [HTN.out]; rfl⟩
          case measure => simp [intOf]
set_option maxHeartbeats 4000000 in
set_option maxRecDepth 100000 in
theorem ref_Encode_no (a0_0 : Int) (a0_1 : ByteArray) (a0_2 : ByteArray) (a0_3 : ByteArray) (a0_4 : ByteArray) (a0_5 : Int) (a0_6 : Int) (a0_7 : Int) (w : World) (hG : Glob w) (hs : fewS a0_1 a0_2 a0_3 a0_4) (hok : okCmd a0_0 a0_1 a0_2 a0_3 a0_4 a0_5 a0_6 a0_7 = false) :
    Calls Tryd.prog 12 #[.agg #[.int .i64 a0_0, .string a0_1, .string a0_2, .string a0_3, .string a0_4, .int .i64 a0_5, .int .i64 a0_6, .int .u64 a0_7]] w (EncRet w ⟨#[]⟩ 200) := by
  have HC : Hid (∀ W, Glob W → Calls Tryd.prog 16 #[.agg #[.int .i64 a0_0, .string a0_1, .string a0_2, .string a0_3, .string a0_4, .int .i64 a0_5, .int .i64 a0_6, .int .u64 a0_7]] W fun e w' => e = .returned (.int .i64 200) ∧ Below W.heap.size W w') := Lib.hid fun W hW => cambistref20_Check.calls _ _ _ _ _ _ _ _ 200 W hW (by unfold cambistref20_Check.f wire_Check.f; rw [if_pos hs, hok]; rfl)
  have hci := CI.start (cs := #[.int .i64 a0_0, .string a0_1, .string a0_2, .string a0_3, .string a0_4, .int .i64 a0_5, .int .i64 a0_6, .int .u64 a0_7]) hG
  clear hG hs hok
  go_enter Tryd.func12, Tryd.ntmps12
  go_wp2_with (go_at_call 16; refine (HC.out _ hci.glob).mono ?_; rintro e w1 ⟨rfl, hb⟩; replace hci := hci.step hb; clear hb)
  go_ret2
  exact ⟨none, 0, rfl, Nat.le_refl _, ⟨rfl, by simp [bytesOf], fun h => by simp [bytesOf] at h⟩, hci.below⟩
theorem ref_Encode.calls (k : Int) (rq wh sc mk : ByteArray) (pr am nu : Int) (w : World) (hG : Glob w) (hs : fewS rq wh sc mk) (h7 : 0 ≤ nu) :
    Calls Tryd.prog 12 #[.agg #[.int .i64 k, .string rq, .string wh, .string sc, .string mk, .int .i64 pr, .int .i64 am, .int .u64 nu]] w (EncRet w (if okCmd k rq wh sc mk pr am nu then encB k rq wh sc mk pr am nu else ⟨#[]⟩) (if okCmd k rq wh sc mk pr am nu then 0 else 200)) := by
  cases hok : okCmd k rq wh sc mk pr am nu with
  | true => exact ref_Encode_ok k rq wh sc mk pr am nu w hG hs h7 hok
  | false => exact ref_Encode_no k rq wh sc mk pr am nu w hG hs hok
end Go.Proofs.YtdpdbmdnmgaeiaaDoor.E

