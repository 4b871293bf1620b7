/- The walk of wire.Check. -/
import Derived.Test.YtdpdbmdnmgaeiaaDoorWords
import Derived.Test.YtdpdbmdnmgaeiaaDoorMarket
import Derived.Test.YtdpdbmdnmgaeiaaDoorNames
import Derived.Test.YtdpdbmdnmgaeiaaDoorWTab
import Derived.Test.YtdpdbmdnmgaeiaaDoorPx1
import Derived.Test.YtdpdbmdnmgaeiaaDoorPx1
import Derived.Lib.Hide
import Derived.Deep.DeepCutAuto
namespace Go.Proofs.YtdpdbmdnmgaeiaaDoor.E
open Go.RowKit Go.Proofs.YtdpdbmdnmgaeiaaDoor.P Go.Proofs.YtdpdbmdnmgaeiaaDoorW.PrintWords Go.Proofs.YtdpdbmdnmgaeiaaDoorW.PrintLast
theorem mask_test {a : Int} (h : 0 ≤ a ∧ a ≤ 13) (i : Nat) (hi : i < 7) : (bits .and .i64 (maskOf a) ((2 ^ i : Nat) : Int) == 0) = !hasW a i := by
  have hi' : i = 0 ∨ i = 1 ∨ i = 2 ∨ i = 3 ∨ i = 4 ∨ i = 5 ∨ i = 6 := by omega
  rcases kind_cases h with rfl | rfl | rfl | rfl | rfl | rfl | rfl | rfl | rfl | rfl | rfl | rfl | rfl | rfl <;> rcases hi' with rfl | rfl | rfl | rfl | rfl | rfl | rfl <;> decide +kernel
theorem okCmd_yes {k : Int} {rq wh sc mk : ByteArray} {pr am nu : Int} (hk : 1 ≤ k ∧ k ≤ 13) (h : ∀ j, j < 7 → okW k rq wh sc mk pr am nu j = true) : okCmd k rq wh sc mk pr am nu = true := by
  unfold okCmd
  rw [decide_eq_true hk.1, decide_eq_true hk.2, List.all_eq_true.2 (fun j hj => h j (List.mem_range.1 hj))]
  rfl
theorem okCmd_no {k : Int} {rq wh sc mk : ByteArray} {pr am nu : Int} {j : Nat} (hj : j < 7) (h : okW k rq wh sc mk pr am nu j = false) : okCmd k rq wh sc mk pr am nu = false := by
  unfold okCmd
  rw [List.all_eq_false.2 ⟨j, List.mem_range.2 hj, by rw [h]; decide⟩, Bool.and_false]
/-- A command that was boxed lies where it was laid. -/
structure CI (w : World) (cs : Array Value) (W : World) : Prop where
  blk : W.heap[w.heap.size]? = some (.cells cs 25 (0, 0))
  below : Below w.heap.size w W
  glob : Glob W
theorem CI.start {w : World} {cs : Array Value} (h : Glob w) : CI w cs (w.alloc (.cells cs 25)) := ⟨heap_alloc_new _ _, below_alloc (Below.refl _ _) _, h.below (below_alloc (Below.refl _ _) _)⟩
theorem CI.step {w W W' : World} {cs : Array Value} (h : CI w cs W) (hb : Below W.heap.size W W') : CI w cs W' := ⟨blk_below h.blk hb, below_then h.below h.below.size hb, h.glob.below hb⟩
def wire_Check.T8 : Bool × List (List Nat × List Nat) := (true, [([], []), ([0], [0]), ([1], [1]), ([], []), ([3], [3]), ([4], [4]), ([2, 5], [2, 5]), ([], []), ([7], [7]), ([8, 2], [8]), ([9, 9], [9]), ([10], [10]), ([11, 10], [10, 11]), ([12, 10], [10, 12]), ([13, 10, 10], [10, 13]), ([14], [14]), ([15, 14, 14], [14, 15]), ([14, 16, 10], [10, 14, 16]), ([10, 17], [10, 17]), ([], []), ([19], [19]), ([20], [20]), ([18, 21], [18, 21]), ([], []), ([23], [23]), ([24, 16], [24]), ([], []), ([26], [26]), ([27], [27]), ([25, 28], [25, 28]), ([], []), ([30], [30]), ([], []), ([32], [32]), ([33], [33]), ([31, 34], [31, 34]), ([], []), ([36], [36]), ([37], [37]), ([38, 25], [38]), ([39], [39]), ([40, 39], [39, 40]), ([41, 39], [39, 41]), ([39, 42], [39, 42]), ([], []), ([44], [44]), ([45], [45]), ([43, 46], [43, 46]), ([], []), ([48], [48]), ([49], [49]), ([50, 39], [50]), ([51], [51]), ([52, 51], [51, 52]), ([51], [51]), ([53, 54, 51], [51, 53, 54]), ([51, 55], [51, 55]), ([], []), ([57], [57]), ([58], [58]), ([56, 59], [56, 59]), ([], []), ([61], [61]), ([62], [62]), ([], []), ([64], [64]), ([65], [65]), ([63, 66], [63, 66]), ([6, 22, 29, 35, 47, 60, 67], [6, 22, 29, 35, 47, 60, 67]), ([68], [68]), ([], [])])
def wire_Check.B8 : List Nat := [0, 1, 3, 0, 8, 24, 63, 0, 128, 391, 903, 1927, 3975, 8071, 16263, 32647, 65415, 130951, 262023, 0, 524288, 1572864, 4194183, 0, 8388608, 25296775, 0, 67108864, 201326592, 528613255, 0, 1073741824, 0, 4294967296, 12884901888, 33285996544, 0, 68719476736, 206158430208, 481095188359, 1030851002247, 2130362630023, 4329385885575, 8727432396679, 0, 17592186044416, 52776558133248, 140668827729799, 0, 281474976710656, 844424930131968, 1971355687976839, 4223155501662087, 8726755129032583, 4223155501662087, 35748352893255559, 71777149912219527, 0, 144115188075855872, 432345564227567616, 1152641060481138567, 0, 2305843009213693952, 6917529027641081856, 0, 18446744073709551616, 55340232221128654848, 145268109580462718976, 295147905179352825855, 590295810358705651711, 0]
theorem check_tab : rtab .any (opsOf Tryd.f15 8) = wire_Check.T8 := by kernel_rfl
theorem check_bits : waitsOk wire_Check.T8.2 wire_Check.B8 = true := by kernel_rfl
theorem lit_step {P : Program} {ops : Array Oper} {Q : Exit → Act → World → Prop} {Kc : Act → World → Prop} {o : Oper} {a : Act} {W : World} {e n : Nat} {inner : Array Value} (hw : Region.wanted o (yielded ops a.tmps) = true)
    (hrun : (execOp a.eval o).run P W = .ok (.value (.slice (some ⟨W.heap.size, 0, none⟩) n n)) (W.alloc (.cells inner e)))
    (h : Kc (a.put o.dst (.slice (some ⟨W.heap.size, 0, none⟩) n n)) (W.alloc (.cells inner e))) : if Region.wanted o (yielded ops a.tmps) = true then Oper.wp P o a W Kc Q else Kc (a.put o.dst undef) W :=
  event_step hw hrun h
section
variable {P : Program} {ops : Array Oper} {md : Region.Mode} {Q : Exit → Act → World → Prop} {S : World → Prop} {ds : List Nat}
theorem yields_g {oi : Oper} {a : Act} (b : Bool) (v : Value) (hw : Region.wanted oi (yielded ops a.tmps) = b) (hv : b = true → ∀ w, (execOp a.eval oi).run P w = .ok (.value v) w) : Yields P ops oi (bif b then v else undef) a := by
  cases b
  · exact .inr ⟨hw, rfl⟩
  · exact .inl ⟨hw, hv rfl⟩
theorem yieldsIf_g {oi : Oper} {a : Act} (b : Bool) (v : Value) (hw : Region.wanted oi (yielded ops a.tmps) = b) (hv : b = true → ∀ w, S w → (execOp a.eval oi).run P w = .ok (.value v) w) : YieldsIf P ops S oi (bif b then v else undef) a := by
  cases b
  · exact .inr ⟨hw, rfl⟩
  · exact .inl ⟨hw, hv rfl⟩
/-- A call that is made, or not: what follows is shown once. -/
theorem one_join {i : Nat} {N : Option Tmp} {oi : Oper} {fuel : Nat} {l : Array Bool} {a : Act} {w : World} (l' : Array Bool) (C : World → Prop) (v : Value) (hi : ops[i]? = some oi) (hN : oi.dst = N) (hc : readyB md ops l l' i = true) (hd : i ∉ ds)
    (hst : ∀ K : Act → World → Prop, (∀ w', C w' → S w' → K (a.put N v) w') → if Region.wanted oi (yielded ops a.tmps) = true then Oper.wp P oi a w K Q else K (a.put N undef) w)
    (h : ∀ w', C w' → S w' → wpAnyLast P md ops Q S ds fuel l' (a.put N v) w') : wpAnyLast P md ops Q S ds (fuel + 1) l a w :=
  one_ l' hi hN hc hd fun K hK => hst K fun w' hC hS => hK.out _ _ hS fun hS' => h w' hC hS'
end
set_option maxHeartbeats 16000000 in
set_option maxRecDepth 100000 in
set_option linter.unusedSimpArgs false in
theorem wire_Check.calls (a0_0 : Int) (a0_1 : ByteArray) (a0_2 : ByteArray) (a0_3 : ByteArray) (a0_4 : ByteArray) (a0_5 : Int) (a0_6 : Int) (a0_7 : Int) (r : Int) (w : World) (hG : Glob w) (h : wire_Check.f a0_0 a0_1 a0_2 a0_3 a0_4 a0_5 a0_6 a0_7 = some r) :
    Calls Tryd.prog 15 #[.agg #[.int .i64 a0_0, .string a0_1, .string a0_2, .string a0_3, .string a0_4, .int .i64 a0_5, .int .i64 a0_6, .int .u64 a0_7]] w fun e w' => e = .returned (.int .i64 r) ∧ Below w.heap.size w w' := by
  unfold wire_Check.f at h
  split at h
  case isFalse => cases h
  rename_i hs
  have hr := Option.some.inj h
  clear h
  obtain ⟨hs1, hs2, hs3, hs4⟩ := hs
  have HW : Hid (∀ W, Glob W → Calls Tryd.prog 35 #[.string a0_1] W fun e w' => e = .returned (.bool (isPart isSign 12 a0_1)) ∧ Below W.heap.size W w') := Lib.hid fun W hW => label_Word.calls a0_1 _ W hW (word_some a0_1 (by omega))
  have HO : Hid (∀ W, Glob W → Calls Tryd.prog 36 #[.string a0_2] W fun e w' => e = .returned (.bool (isWho a0_2)) ∧ Below W.heap.size W w') := Lib.hid fun W hW => label_Who.calls a0_2 _ W hW (who_some a0_2 (by omega))
  have HA : Hid (∀ W, Glob W → Calls Tryd.prog 37 #[.string a0_3] W fun e w' => e = .returned (.bool (isPart isUp 6 a0_3)) ∧ Below W.heap.size W w') := Lib.hid fun W hW => label_Asset.calls a0_3 _ W hW (asset_some a0_3 (by omega))
  have HM : Hid (∀ W, Glob W → Calls Tryd.prog 34 #[.string a0_4] W fun e w' => e = .returned (.tuple #[.string (marketOf a0_4).1, .string (marketOf a0_4).2.1, .int .i64 (marketOf a0_4).2.2]) ∧ Below W.heap.size W w') := Lib.hid fun W hW => order_Market.calls a0_4 _ _ _ W hW (market_some a0_4 (by omega))
  have HK : Hid (∀ W, Glob W → Calls Tryd.prog 17 #[.agg #[.int .i64 a0_0, .string a0_1, .string a0_2, .string a0_3, .string a0_4, .int .i64 a0_5, .int .i64 a0_6, .int .u64 a0_7]] W fun e w' => e = .returned (.bool (decide (a0_0 ≥ 10) && decide (a0_0 ≤ 13))) ∧ Below W.heap.size W w') := Lib.hid fun W hW => wire_Asks.calls _ _ _ _ _ _ _ _ _ W hW (by unfold wire_Asks.f; by_cases h : a0_0 ≥ 10 <;> simp [h])
  have HR := Lib.hid hr; clear hr
  clear hs1 hs2 hs3 hs4
  by_cases hk : 1 ≤ a0_0 ∧ a0_0 ≤ 13
  · have k1 : decide (a0_0 < 1) = false := decide_eq_false (by omega)
    have k2 : decide (a0_0 > 13) = false := decide_eq_false (by omega)
    have HD : Hid (∀ W, Glob W → Calls Tryd.prog 22 #[.int .i64 a0_0] W fun e w' => e = .returned (.int .i64 (maskOf a0_0)) ∧ Drawn0 W w') := Lib.hid fun W hW => wire_words.calls a0_0 _ W hW (if_pos (by omega))
    obtain ⟨bs, hbs⟩ : ∃ b, isPart isSign 12 a0_1 = b := ⟨_, rfl⟩
    obtain ⟨bw, hbw⟩ : ∃ b, isWho a0_2 = b := ⟨_, rfl⟩
    obtain ⟨bu, hbu⟩ : ∃ b, isPart isUp 6 a0_3 = b := ⟨_, rfl⟩
    obtain ⟨bk, hbk⟩ : ∃ b, (decide (a0_0 ≥ 10) && decide (a0_0 ≤ 13)) = b := ⟨_, rfl⟩
    obtain ⟨em, hem⟩ : ∃ b, (marketOf a0_4).2.2 = b := ⟨_, rfl⟩
    obtain ⟨ma, hma⟩ : ∃ b, (marketOf a0_4).1 = b := ⟨_, rfl⟩
    obtain ⟨mb, hmb⟩ : ∃ b, (marketOf a0_4).2.1 = b := ⟨_, rfl⟩
    obtain ⟨K, hK⟩ : ∃ b, maskOf a0_0 = b := ⟨_, rfl⟩
    obtain ⟨mo, hmo⟩ : ∃ b, mostOf a0_0 = b := ⟨_, rfl⟩
    obtain ⟨gw, hgw⟩ : ∃ b, (a0_2.toList == ([119, 111, 114, 108, 100] : List UInt8)) = b := ⟨_, rfl⟩
    obtain ⟨g5, hg5⟩ : ∃ b, decide (1 ≤ a0_5) = b := ⟨_, rfl⟩
    obtain ⟨g6, hg6⟩ : ∃ b, decide (1 ≤ a0_6) = b := ⟨_, rfl⟩
    rw [hbs] at HW; rw [hbw] at HO; rw [hbu] at HA; rw [hbk] at HK; rw [hem, hma, hmb] at HM; rw [hK] at HD
    have Hbs := Lib.hid hbs; have Hbw := Lib.hid hbw; have Hbu := Lib.hid hbu; have Hbk := Lib.hid hbk; have Hem := Lib.hid hem; have HKK := Lib.hid hK; have Hmo := Lib.hid hmo; have Hgw := Lib.hid hgw; have Hg5 := Lib.hid hg5; have Hg6 := Lib.hid hg6
    clear hbs hbw hbu hbk hem hma hmb hK hmo hgw hg5 hg6
    have HN := Lib.hid hk; clear hk
    have hci := CI.start (cs := #[.int .i64 a0_0, .string a0_1, .string a0_2, .string a0_3, .string a0_4, .int .i64 a0_5, .int .i64 a0_6, .int .u64 a0_7]) hG
    have HG := Lib.hid hG; clear hG
    go_enter Tryd.func15, Tryd.ntmps15
    go_upto_if 30 with (first | (go_at_call 22; refine (HD.out _ hci.glob).mono ?_; rintro e w1 ⟨rfl, hb⟩; replace hci := hci.step hb.below; clear hb; have c0 := blk_cell hci.blk 0; have c1 := blk_cell hci.blk 1; have c2 := blk_cell hci.blk 2; have c3 := blk_cell hci.blk 3; have c4 := blk_cell hci.blk 4; have c5 := blk_cell hci.blk 5; have c6 := blk_cell hci.blk 6; have c7 := blk_cell hci.blk 7; simp only [List.getElem?_toArray, List.getElem?_cons_zero, List.getElem?_cons_succ] at c0 c1 c2 c3 c4 c5 c6 c7) | (go_at_call 34; refine (HM.out _ hci.glob).mono ?_; rintro e w2 ⟨rfl, hb⟩; replace hci := hci.step hb; clear hb; have c0 := blk_cell hci.blk 0; have c1 := blk_cell hci.blk 1; have c2 := blk_cell hci.blk 2; have c3 := blk_cell hci.blk 3; have c4 := blk_cell hci.blk 4; have c5 := blk_cell hci.blk 5; have c6 := blk_cell hci.blk 6; have c7 := blk_cell hci.blk 7; simp only [List.getElem?_toArray, List.getElem?_cons_zero, List.getElem?_cons_succ] at c0 c1 c2 c3 c4 c5 c6 c7))
    have HCI := Lib.hid hci; clear hci
    go_cut [7] (fun v7 wc => v7 = .int .i64 mo ∧ Hid (CI w #[.int .i64 a0_0, .string a0_1, .string a0_2, .string a0_3, .string a0_4, .int .i64 a0_5, .int .i64 a0_6, .int .u64 a0_7] wc))
    case first =>
      by_cases k3 : a0_0 ≤ 2
      · have k3' : decide (a0_0 ≤ 2) = true := decide_eq_true k3
        have HE : Hid (1099511627776 = mo) := Lib.hid (by rw [← Hmo.out]; exact (if_pos k3).symm)
        clear k3
        rw [k3']
        go_wp2
        go_meet
        case rel => exact ⟨by rw [← HE.out], HCI⟩
      · have k3' : decide (a0_0 ≤ 2) = false := decide_eq_false k3
        have HE : Hid (1000000 = mo) := Lib.hid (by rw [← Hmo.out]; exact (if_neg k3).symm)
        clear k3
        rw [k3']
        go_wp2
        go_meet
        case rel => exact ⟨by rw [← HE.out], HCI⟩
    case rest =>
      clear HCI
      obtain ⟨rfl, HCI⟩ := hcut
      go_upto_region 8 with (fail)
      go_cut [99, 100, 101] (fun v99 v100 v101 wc => ∃ g, v99 = .slice (some ⟨g, 0, none⟩) 7 7 ∧ v100 = .int .i64 7 ∧ v101 = .int .i64 0 ∧ Hid (wc.heap[g]? = some (.cells #[.int .i64 1, .bool bs, .bool (a0_1.toList == []), .int .i64 2, .bool (bw && (!gw || bk)), .bool (a0_2.toList == []), .int .i64 4, .bool bu, .bool (a0_3.toList == []), .int .i64 8, .bool (em == 0), .bool (a0_4.toList == []), .int .i64 16, .bool (g5 && decide (a0_5 ≤ 1000000)), .bool (a0_5 == 0), .int .i64 32, .bool (g6 && decide (a0_6 ≤ mo)), .bool (a0_6 == 0), .int .i64 64, .bool (decide (a0_7 ≤ 4611686018427387904)), .bool (a0_7 == 0)] 58 (0, 0))) ∧ Hid (CI w #[.int .i64 a0_0, .string a0_1, .string a0_2, .string a0_3, .string a0_4, .int .i64 a0_5, .int .i64 a0_6, .int .u64 a0_7] wc))
      case first =>
        have hgw := Hgw.out; have hg5 := Hg5.out; have hg6 := Hg6.out
        have hgn : (a0_2.toList != ([119, 111, 114, 108, 100] : List UInt8)) = !gw := by rw [← hgw]; rfl
        have hci := HCI.out.step (below_drew1 (Below.refl _ _))
        try go_wp2
        refine start_ (n := 71) (S := fun w' => w'.cell? ⟨w.heap.size, 0, none⟩ = some (.int .i64 a0_0) ∧ w'.cell? ⟨w.heap.size, 1, none⟩ = some (.string a0_1) ∧ w'.cell? ⟨w.heap.size, 2, none⟩ = some (.string a0_2) ∧ w'.cell? ⟨w.heap.size, 3, none⟩ = some (.string a0_3) ∧ w'.cell? ⟨w.heap.size, 4, none⟩ = some (.string a0_4) ∧ w'.cell? ⟨w.heap.size, 5, none⟩ = some (.int .i64 a0_5) ∧ w'.cell? ⟨w.heap.size, 6, none⟩ = some (.int .i64 a0_6) ∧ w'.cell? ⟨w.heap.size, 7, none⟩ = some (.int .u64 a0_7)) (ds := []) #[false, false, false, false, false, false, false, false, false, false, false, false, false, false, false, false, false, false, false, false, false, false, false, false, false, false, false, false, false, false, false, false, false, false, false, false, false, false, false, false, false, false, false, false, false, false, false, false, false, false, false, false, false, false, false, false, false, false, false, false, false, false, false, false, false, false, false, false, false, false, false] (by kernel_rfl) rfl rfl ⟨(blk_cell hci.blk 0).trans rfl, (blk_cell hci.blk 1).trans rfl, (blk_cell hci.blk 2).trans rfl, (blk_cell hci.blk 3).trans rfl, (blk_cell hci.blk 4).trans rfl, (blk_cell hci.blk 5).trans rfl, (blk_cell hci.blk 6).trans rfl, (blk_cell hci.blk 7).trans rfl⟩ (fun hHeld => ?_); refine with_tabW check_tab check_bits (fun HT_ HW_ => ?_)
        generalize wc.drew = w2 at hci hHeld ⊢
        (refine pure_ (i := 0) (N := some 31) (v := ?_) (a' := ?_) (fl_ 71 1) rfl rfl (any_of HT_.out (by kernel_rfl)) (fun _ _ _ h => h) (Or.inl ⟨by rfl, ?_⟩) ?_ ?_; rotate_left; (· (intro w'; go_simp; with_reducible rfl)); rotate_left; (· (simp only [Act.put, List.setIfInBounds_toArray, List.set_cons_zero, List.set_cons_succ, i64_w, i32_w]; rfl)))
        (refine pure_ (i := 3) (N := some 34) (v := ?_) (a' := ?_) (fl_ 71 9) rfl rfl (any_of HT_.out (by kernel_rfl)) (fun _ _ _ h => h) (Or.inl ⟨by rfl, ?_⟩) ?_ ?_; rotate_left; (· (intro w'; go_simp; with_reducible rfl)); rotate_left; (· (simp only [Act.put, List.setIfInBounds_toArray, List.set_cons_zero, List.set_cons_succ, i64_w, i32_w]; rfl)))
        (refine pure_ (i := 7) (N := some 38) (v := ?_) (a' := ?_) (fl_ 71 137) rfl rfl (any_of HT_.out (by kernel_rfl)) (fun _ _ _ h => h) (Or.inl ⟨by rfl, ?_⟩) ?_ ?_; rotate_left; (· (intro w'; go_simp; with_reducible rfl)); rotate_left; (· (simp only [Act.put, List.setIfInBounds_toArray, List.set_cons_zero, List.set_cons_succ, i64_w, i32_w]; rfl)))
        (refine pure_ (i := 19) (N := some 50) (v := ?_) (a' := ?_) (fl_ 71 524425) rfl rfl (any_of HT_.out (by kernel_rfl)) (fun _ _ _ h => h) (Or.inl ⟨by rfl, ?_⟩) ?_ ?_; rotate_left; (· (intro w'; go_simp; with_reducible rfl)); rotate_left; (· (simp only [Act.put, List.setIfInBounds_toArray, List.set_cons_zero, List.set_cons_succ, i64_w, i32_w]; rfl)))
        (refine pure_ (i := 23) (N := some 54) (v := ?_) (a' := ?_) (fl_ 71 8913033) rfl rfl (any_of HT_.out (by kernel_rfl)) (fun _ _ _ h => h) (Or.inl ⟨by rfl, ?_⟩) ?_ ?_; rotate_left; (· (intro w'; go_simp; with_reducible rfl)); rotate_left; (· (simp only [Act.put, List.setIfInBounds_toArray, List.set_cons_zero, List.set_cons_succ, i64_w, i32_w]; rfl)))
        (refine pure_ (i := 26) (N := some 57) (v := ?_) (a' := ?_) (fl_ 71 76021897) rfl rfl (any_of HT_.out (by kernel_rfl)) (fun _ _ _ h => h) (Or.inl ⟨by rfl, ?_⟩) ?_ ?_; rotate_left; (· (intro w'; go_simp; with_reducible rfl)); rotate_left; (· (simp only [Act.put, List.setIfInBounds_toArray, List.set_cons_zero, List.set_cons_succ, i64_w, i32_w]; rfl)))
        (refine pure_ (i := 30) (N := some 61) (v := ?_) (a' := ?_) (fl_ 71 1149763721) rfl rfl (any_of HT_.out (by kernel_rfl)) (fun _ _ _ h => h) (Or.inl ⟨by rfl, ?_⟩) ?_ ?_; rotate_left; (· (intro w'; go_simp; with_reducible rfl)); rotate_left; (· (simp only [Act.put, List.setIfInBounds_toArray, List.set_cons_zero, List.set_cons_succ, i64_w, i32_w]; rfl)))
        (refine pure_ (i := 31) (N := some 62) (v := ?_) (a' := ?_) (fl_ 71 3297247369) rfl rfl (any_of HT_.out (by kernel_rfl)) (fun _ _ _ h => h) (Or.inl ⟨by rfl, ?_⟩) ?_ ?_; rotate_left; (· (intro w'; go_simp; with_reducible rfl)); rotate_left; (· (simp only [Act.put, List.setIfInBounds_toArray, List.set_cons_zero, List.set_cons_succ, i64_w, i32_w]; rfl)))
        (refine pure_ (i := 32) (N := some 63) (v := ?_) (a' := ?_) (fl_ 71 7592214665) rfl rfl (any_of HT_.out (by kernel_rfl)) (fun _ _ _ h => h) (Or.inl ⟨by rfl, ?_⟩) ?_ ?_; rotate_left; (· (intro w'; go_simp; with_reducible rfl)); rotate_left; (· (simp only [Act.put, List.setIfInBounds_toArray, List.set_cons_zero, List.set_cons_succ, i64_w, i32_w]; rfl)))
        (refine pure_ (i := 36) (N := some 67) (v := ?_) (a' := ?_) (fl_ 71 76311691401) rfl rfl (any_of HT_.out (by kernel_rfl)) (fun _ _ _ h => h) (Or.inl ⟨by rfl, ?_⟩) ?_ ?_; rotate_left; (· (intro w'; go_simp; with_reducible rfl)); rotate_left; (· (simp only [Act.put, List.setIfInBounds_toArray, List.set_cons_zero, List.set_cons_succ, i64_w, i32_w]; rfl)))
        (refine pure_ (i := 44) (N := some 75) (v := ?_) (a' := ?_) (fl_ 71 17668497735817) rfl rfl (any_of HT_.out (by kernel_rfl)) (fun _ _ _ h => h) (Or.inl ⟨by rfl, ?_⟩) ?_ ?_; rotate_left; (· (intro w'; go_simp; with_reducible rfl)); rotate_left; (· (simp only [Act.put, List.setIfInBounds_toArray, List.set_cons_zero, List.set_cons_succ, i64_w, i32_w]; rfl)))
        (refine pure_ (i := 48) (N := some 79) (v := ?_) (a' := ?_) (fl_ 71 299143474446473) rfl rfl (any_of HT_.out (by kernel_rfl)) (fun _ _ _ h => h) (Or.inl ⟨by rfl, ?_⟩) ?_ ?_; rotate_left; (· (intro w'; go_simp; with_reducible rfl)); rotate_left; (· (simp only [Act.put, List.setIfInBounds_toArray, List.set_cons_zero, List.set_cons_succ, i64_w, i32_w]; rfl)))
        (refine pure_ (i := 57) (N := some 88) (v := ?_) (a' := ?_) (fl_ 71 144414331550302345) rfl rfl (any_of HT_.out (by kernel_rfl)) (fun _ _ _ h => h) (Or.inl ⟨by rfl, ?_⟩) ?_ ?_; rotate_left; (· (intro w'; go_simp; with_reducible rfl)); rotate_left; (· (simp only [Act.put, List.setIfInBounds_toArray, List.set_cons_zero, List.set_cons_succ, i64_w, i32_w]; rfl)))
        (refine pure_ (i := 61) (N := some 92) (v := ?_) (a' := ?_) (fl_ 71 2450257340763996297) rfl rfl (any_of HT_.out (by kernel_rfl)) (fun _ _ _ h => h) (Or.inl ⟨by rfl, ?_⟩) ?_ ?_; rotate_left; (· (intro w'; go_simp; with_reducible rfl)); rotate_left; (· (simp only [Act.put, List.setIfInBounds_toArray, List.set_cons_zero, List.set_cons_succ, i64_w, i32_w]; rfl)))
        (refine pure_ (i := 64) (N := some 95) (v := ?_) (a' := ?_) (fl_ 71 20897001414473547913) rfl rfl (any_of HT_.out (by kernel_rfl)) (fun _ _ _ h => h) (Or.inl ⟨by rfl, ?_⟩) ?_ ?_; rotate_left; (· (intro w'; go_simp; with_reducible rfl)); rotate_left; (· (simp only [Act.put, List.setIfInBounds_toArray, List.set_cons_zero, List.set_cons_succ, i64_w, i32_w]; rfl)))
        (refine pure_ (i := 70) (N := some 101) (v := ?_) (a' := ?_) (fl_ 71 1201488622131884851337) rfl rfl (any_of HT_.out (by kernel_rfl)) (fun _ _ _ h => h) (Or.inl ⟨by rfl, ?_⟩) ?_ ?_; rotate_left; (· (intro w'; go_simp; with_reducible rfl)); rotate_left; (· (simp only [Act.put, List.setIfInBounds_toArray, List.set_cons_zero, List.set_cons_succ, i64_w, i32_w]; rfl)))
        (refine take_ (i := 1) (N := some 32) (v := ?_) (a' := ?_) (fl_ 71 1201488622131884851339) rfl rfl (take_ofW HT_.out HW_.out (by kernel_rfl)) (fun _ _ _ h => h) (Or.inl ⟨by rfl, ?_⟩) hHeld ?_ ?_; rotate_left; (· (rintro w' ⟨s0, s1, s2, s3, s4, s5, s6, s7⟩; go_simp; with_reducible rfl)); rotate_left; (· (simp only [Act.put, List.setIfInBounds_toArray, List.set_cons_zero, List.set_cons_succ, i64_w, i32_w]; rfl)))
        (refine take_ (i := 4) (N := some 35) (v := ?_) (a' := ?_) (fl_ 71 1201488622131884851355) rfl rfl (take_ofW HT_.out HW_.out (by kernel_rfl)) (fun _ _ _ h => h) (Or.inl ⟨by rfl, ?_⟩) hHeld ?_ ?_; rotate_left; (· (rintro w' ⟨s0, s1, s2, s3, s4, s5, s6, s7⟩; go_simp; with_reducible rfl)); rotate_left; (· (simp only [Act.put, List.setIfInBounds_toArray, List.set_cons_zero, List.set_cons_succ, i64_w, i32_w]; rfl)))
        (refine pure_ (i := 5) (N := some 36) (v := ?_) (a' := ?_) (fl_ 71 1201488622131884851387) rfl rfl (any_of HT_.out (by kernel_rfl)) (fun _ _ _ h => h) (Or.inl ⟨by rfl, ?_⟩) ?_ ?_; rotate_left; (· (intro w'; go_simp; with_reducible rfl)); rotate_left; (· (simp only [Act.put, List.setIfInBounds_toArray, List.set_cons_zero, List.set_cons_succ, i64_w, i32_w]; rfl)))
        (refine take_ (i := 8) (N := some 39) (v := ?_) (a' := ?_) (fl_ 71 1201488622131884851643) rfl rfl (take_ofW HT_.out HW_.out (by kernel_rfl)) (fun _ _ _ h => h) (Or.inl ⟨by rfl, ?_⟩) hHeld ?_ ?_; rotate_left; (· (rintro w' ⟨s0, s1, s2, s3, s4, s5, s6, s7⟩; go_simp; with_reducible rfl)); rotate_left; (· (simp only [Act.put, List.setIfInBounds_toArray, List.set_cons_zero, List.set_cons_succ, i64_w, i32_w]; rfl)))
        (refine take_ (i := 20) (N := some 51) (v := ?_) (a' := ?_) (fl_ 71 1201488622131885900219) rfl rfl (take_ofW HT_.out HW_.out (by kernel_rfl)) (fun _ _ _ h => h) (Or.inl ⟨by rfl, ?_⟩) hHeld ?_ ?_; rotate_left; (· (rintro w' ⟨s0, s1, s2, s3, s4, s5, s6, s7⟩; go_simp; with_reducible rfl)); rotate_left; (· (simp only [Act.put, List.setIfInBounds_toArray, List.set_cons_zero, List.set_cons_succ, i64_w, i32_w]; rfl)))
        (refine pure_ (i := 21) (N := some 52) (v := ?_) (a' := ?_) (fl_ 71 1201488622131887997371) rfl rfl (any_of HT_.out (by kernel_rfl)) (fun _ _ _ h => h) (Or.inl ⟨by rfl, ?_⟩) ?_ ?_; rotate_left; (· (intro w'; go_simp; with_reducible rfl)); rotate_left; (· (simp only [Act.put, List.setIfInBounds_toArray, List.set_cons_zero, List.set_cons_succ, i64_w, i32_w]; rfl)))
        (refine take_ (i := 24) (N := some 55) (v := ?_) (a' := ?_) (fl_ 71 1201488622131904774587) rfl rfl (take_ofW HT_.out HW_.out (by kernel_rfl)) (fun _ _ _ h => h) (Or.inl ⟨by rfl, ?_⟩) hHeld ?_ ?_; rotate_left; (· (rintro w' ⟨s0, s1, s2, s3, s4, s5, s6, s7⟩; go_simp; with_reducible rfl)); rotate_left; (· (simp only [Act.put, List.setIfInBounds_toArray, List.set_cons_zero, List.set_cons_succ, i64_w, i32_w]; rfl)))
        (refine take_ (i := 27) (N := some 58) (v := ?_) (a' := ?_) (fl_ 71 1201488622132038992315) rfl rfl (take_ofW HT_.out HW_.out (by kernel_rfl)) (fun _ _ _ h => h) (Or.inl ⟨by rfl, ?_⟩) hHeld ?_ ?_; rotate_left; (· (rintro w' ⟨s0, s1, s2, s3, s4, s5, s6, s7⟩; go_simp; with_reducible rfl)); rotate_left; (· (simp only [Act.put, List.setIfInBounds_toArray, List.set_cons_zero, List.set_cons_succ, i64_w, i32_w]; rfl)))
        (refine pure_ (i := 28) (N := some 59) (v := ?_) (a' := ?_) (fl_ 71 1201488622132307427771) rfl rfl (any_of HT_.out (by kernel_rfl)) (fun _ _ _ h => h) (Or.inl ⟨by rfl, ?_⟩) ?_ ?_; rotate_left; (· (intro w'; go_simp; with_reducible rfl)); rotate_left; (· (simp only [Act.put, List.setIfInBounds_toArray, List.set_cons_zero, List.set_cons_succ, i64_w, i32_w]; rfl)))
        (refine take_ (i := 33) (N := some 64) (v := ?_) (a' := ?_) (fl_ 71 1201488622140897362363) rfl rfl (take_ofW HT_.out HW_.out (by kernel_rfl)) (fun _ _ _ h => h) (Or.inl ⟨by rfl, ?_⟩) hHeld ?_ ?_; rotate_left; (· (rintro w' ⟨s0, s1, s2, s3, s4, s5, s6, s7⟩; go_simp; with_reducible rfl)); rotate_left; (· (simp only [Act.put, List.setIfInBounds_toArray, List.set_cons_zero, List.set_cons_succ, i64_w, i32_w]; rfl)))
        (refine pure_ (i := 34) (N := some 65) (v := ?_) (a' := ?_) (fl_ 71 1201488622158077231547) rfl rfl (any_of HT_.out (by kernel_rfl)) (fun _ _ _ h => h) (Or.inl ⟨by rfl, ?_⟩) ?_ ?_; rotate_left; (· (intro w'; go_simp; with_reducible rfl)); rotate_left; (· (simp only [Act.put, List.setIfInBounds_toArray, List.set_cons_zero, List.set_cons_succ, i64_w, i32_w]; rfl)))
        (refine pure_ (i := 35) (N := some 66) (v := ?_) (a' := ?_) (fl_ 71 1201488622192436969915) rfl rfl (any_of HT_.out (by kernel_rfl)) (fun _ _ _ h => h) (Or.inl ⟨by rfl, ?_⟩) ?_ ?_; rotate_left; (· (intro w'; go_simp; with_reducible rfl)); rotate_left; (· (simp only [Act.put, List.setIfInBounds_toArray, List.set_cons_zero, List.set_cons_succ, i64_w, i32_w]; rfl)))
        (refine take_ (i := 37) (N := some 68) (v := ?_) (a' := ?_) (fl_ 71 1201488622329875923387) rfl rfl (take_ofW HT_.out HW_.out (by kernel_rfl)) (fun _ _ _ h => h) (Or.inl ⟨by rfl, ?_⟩) hHeld ?_ ?_; rotate_left; (· (rintro w' ⟨s0, s1, s2, s3, s4, s5, s6, s7⟩; go_simp; with_reducible rfl)); rotate_left; (· (simp only [Act.put, List.setIfInBounds_toArray, List.set_cons_zero, List.set_cons_succ, i64_w, i32_w]; rfl)))
        (refine pure_ (i := 38) (N := some 69) (v := ?_) (a' := ?_) (fl_ 71 1201488622604753830331) rfl rfl (any_of HT_.out (by kernel_rfl)) (fun _ _ _ h => h) (Or.inl ⟨by rfl, ?_⟩) ?_ ?_; rotate_left; (· (intro w'; go_simp; with_reducible rfl)); rotate_left; (· (simp only [Act.put, List.setIfInBounds_toArray, List.set_cons_zero, List.set_cons_succ, i64_w, i32_w]; rfl)))
        (refine take_ (i := 45) (N := some 76) (v := ?_) (a' := ?_) (fl_ 71 1201488657789125919163) rfl rfl (take_ofW HT_.out HW_.out (by kernel_rfl)) (fun _ _ _ h => h) (Or.inl ⟨by rfl, ?_⟩) hHeld ?_ ?_; rotate_left; (· (rintro w' ⟨s0, s1, s2, s3, s4, s5, s6, s7⟩; go_simp; with_reducible rfl)); rotate_left; (· (simp only [Act.put, List.setIfInBounds_toArray, List.set_cons_zero, List.set_cons_succ, i64_w, i32_w]; rfl)))
        (refine pure_ (i := 46) (N := some 77) (v := ?_) (a' := ?_) (fl_ 71 1201488728157870096827) rfl rfl (any_of HT_.out (by kernel_rfl)) (fun _ _ _ h => h) (Or.inl ⟨by rfl, ?_⟩) ?_ ?_; rotate_left; (· (intro w'; go_simp; with_reducible rfl)); rotate_left; (· (simp only [Act.put, List.setIfInBounds_toArray, List.set_cons_zero, List.set_cons_succ, i64_w, i32_w]; rfl)))
        (refine take_ (i := 49) (N := some 80) (v := ?_) (a' := ?_) (fl_ 71 1201489291107823518139) rfl rfl (take_ofW HT_.out HW_.out (by kernel_rfl)) (fun _ _ _ h => h) (Or.inl ⟨by rfl, ?_⟩) hHeld ?_ ?_; rotate_left; (· (rintro w' ⟨s0, s1, s2, s3, s4, s5, s6, s7⟩; go_simp; with_reducible rfl)); rotate_left; (· (simp only [Act.put, List.setIfInBounds_toArray, List.set_cons_zero, List.set_cons_succ, i64_w, i32_w]; rfl)))
        (refine pure_ (i := 50) (N := some 81) (v := ?_) (a' := ?_) (fl_ 71 1201490417007730360763) rfl rfl (any_of HT_.out (by kernel_rfl)) (fun _ _ _ h => h) (Or.inl ⟨by rfl, ?_⟩) ?_ ?_; rotate_left; (· (intro w'; go_simp; with_reducible rfl)); rotate_left; (· (simp only [Act.put, List.setIfInBounds_toArray, List.set_cons_zero, List.set_cons_succ, i64_w, i32_w]; rfl)))
        (refine take_ (i := 58) (N := some 89) (v := ?_) (a' := ?_) (fl_ 71 1201778647383882072507) rfl rfl (take_ofW HT_.out HW_.out (by kernel_rfl)) (fun _ _ _ h => h) (Or.inl ⟨by rfl, ?_⟩) hHeld ?_ ?_; rotate_left; (· (rintro w' ⟨s0, s1, s2, s3, s4, s5, s6, s7⟩; go_simp; with_reducible rfl)); rotate_left; (· (simp only [Act.put, List.setIfInBounds_toArray, List.set_cons_zero, List.set_cons_succ, i64_w, i32_w]; rfl)))
        (refine pure_ (i := 59) (N := some 90) (v := ?_) (a' := ?_) (fl_ 71 1202355108136185495995) rfl rfl (any_of HT_.out (by kernel_rfl)) (fun _ _ _ h => h) (Or.inl ⟨by rfl, ?_⟩) ?_ ?_; rotate_left; (· (intro w'; go_simp; with_reducible rfl)); rotate_left; (· (simp only [Act.put, List.setIfInBounds_toArray, List.set_cons_zero, List.set_cons_succ, i64_w, i32_w]; rfl)))
        (refine take_ (i := 62) (N := some 93) (v := ?_) (a' := ?_) (fl_ 71 1206966794154612883899) rfl rfl (take_ofW HT_.out HW_.out (by kernel_rfl)) (fun _ _ _ h => h) (Or.inl ⟨by rfl, ?_⟩) hHeld ?_ ?_; rotate_left; (· (rintro w' ⟨s0, s1, s2, s3, s4, s5, s6, s7⟩; go_simp; with_reducible rfl)); rotate_left; (· (simp only [Act.put, List.setIfInBounds_toArray, List.set_cons_zero, List.set_cons_succ, i64_w, i32_w]; rfl)))
        (refine pure_ (i := 63) (N := some 94) (v := ?_) (a' := ?_) (fl_ 71 1216190166191467659707) rfl rfl (any_of HT_.out (by kernel_rfl)) (fun _ _ _ h => h) (Or.inl ⟨by rfl, ?_⟩) ?_ ?_; rotate_left; (· (intro w'; go_simp; with_reducible rfl)); rotate_left; (· (simp only [Act.put, List.setIfInBounds_toArray, List.set_cons_zero, List.set_cons_succ, i64_w, i32_w]; rfl)))
        (refine take_ (i := 65) (N := some 96) (v := ?_) (a' := ?_) (fl_ 71 1253083654338886762939) rfl rfl (take_ofW HT_.out HW_.out (by kernel_rfl)) (fun _ _ _ h => h) (Or.inl ⟨by rfl, ?_⟩) hHeld ?_ ?_; rotate_left; (· (rintro w' ⟨s0, s1, s2, s3, s4, s5, s6, s7⟩; go_simp; with_reducible rfl)); rotate_left; (· (simp only [Act.put, List.setIfInBounds_toArray, List.set_cons_zero, List.set_cons_succ, i64_w, i32_w]; rfl)))
        (refine pure_ (i := 66) (N := some 97) (v := ?_) (a' := ?_) (fl_ 71 1326870630633724969403) rfl rfl (any_of HT_.out (by kernel_rfl)) (fun _ _ _ h => h) (Or.inl ⟨by rfl, ?_⟩) ?_ ?_; rotate_left; (· (intro w'; go_simp; with_reducible rfl)); rotate_left; (· (simp only [Act.put, List.setIfInBounds_toArray, List.set_cons_zero, List.set_cons_succ, i64_w, i32_w]; rfl)))
        (refine pure_ (i := 67) (N := some 98) (v := ?_) (a' := ?_) (fl_ 71 1474444583223401382331) rfl rfl (any_of HT_.out (by kernel_rfl)) (fun _ _ _ h => h) (Or.inl ⟨by rfl, ?_⟩) ?_ ?_; rotate_left; (· (intro w'; go_simp; with_reducible rfl)); rotate_left; (· (simp only [Act.put, List.setIfInBounds_toArray, List.set_cons_zero, List.set_cons_succ, i64_w, i32_w]; rfl)))
        (refine one_ (i := 2) (N := some 33) (fl_ 71 1474444583223401382335) rfl rfl (one_of HT_.out (by kernel_rfl)) (by decide) (fun K hK => ?_); refine goes_ Tryd.func35 (by kernel_rfl) rfl #[.string a0_1] (by rfl) rfl rfl (by (try simp only [List.map_toArray, List.map_cons, List.map_nil]); first | done | rfl) ?_; refine (HW.out _ hci.glob).mono ?_; rintro e w3 ⟨rfl, hb⟩; refine ⟨_, rfl, ?_⟩; replace hci := hci.step hb; clear hb; refine hK.out _ _ ⟨(blk_cell hci.blk 0).trans rfl, (blk_cell hci.blk 1).trans rfl, (blk_cell hci.blk 2).trans rfl, (blk_cell hci.blk 3).trans rfl, (blk_cell hci.blk 4).trans rfl, (blk_cell hci.blk 5).trans rfl, (blk_cell hci.blk 6).trans rfl, (blk_cell hci.blk 7).trans rfl⟩ (fun hHeld => ?_); clear hK K; refine norm_ (a' := ?_) ?_ ?_; rotate_left; (· (show Act.put _ (some 33) _ = _; simp only [Act.put, List.setIfInBounds_toArray, List.set_cons_zero, List.set_cons_succ, i64_w, i32_w]; rfl)))
        (refine pure_ (i := 6) (N := some 37) (v := ?_) (a' := ?_) (fl_ 71 1474444583223401382399) rfl rfl (any_of HT_.out (by kernel_rfl)) (fun _ _ _ h => h) (Or.inl ⟨by rfl, ?_⟩) ?_ ?_; rotate_left; (· (intro w'; go_simp; with_reducible rfl)); rotate_left; (· (simp only [Act.put, List.setIfInBounds_toArray, List.set_cons_zero, List.set_cons_succ, i64_w, i32_w]; rfl)))
        (refine one_ (i := 9) (N := some 40) (fl_ 71 1474444583223401382911) rfl rfl (one_of HT_.out (by kernel_rfl)) (by decide) (fun K hK => ?_); refine goes_ Tryd.func36 (by kernel_rfl) rfl #[.string a0_2] (by rfl) rfl rfl (by (try simp only [List.map_toArray, List.map_cons, List.map_nil]); first | done | rfl) ?_; refine (HO.out _ hci.glob).mono ?_; rintro e w4 ⟨rfl, hb⟩; refine ⟨_, rfl, ?_⟩; replace hci := hci.step hb; clear hb; refine hK.out _ _ ⟨(blk_cell hci.blk 0).trans rfl, (blk_cell hci.blk 1).trans rfl, (blk_cell hci.blk 2).trans rfl, (blk_cell hci.blk 3).trans rfl, (blk_cell hci.blk 4).trans rfl, (blk_cell hci.blk 5).trans rfl, (blk_cell hci.blk 6).trans rfl, (blk_cell hci.blk 7).trans rfl⟩ (fun hHeld => ?_); clear hK K; refine norm_ (a' := ?_) ?_ ?_; rotate_left; (· (show Act.put _ (some 40) _ = _; simp only [Act.put, List.setIfInBounds_toArray, List.set_cons_zero, List.set_cons_succ, i64_w, i32_w]; rfl)))
        (refine pure_ (i := 10) (N := some 41) (v := ?_) (a' := ?_) (fl_ 71 1474444583223401383935) rfl rfl (any_of HT_.out (by kernel_rfl)) (fun _ _ _ h => h) (Or.inl ⟨by rfl, ?_⟩) ?_ ?_; rotate_left; (· (intro w'; go_simp; with_reducible rfl)); rotate_left; (· (simp only [Act.put, List.setIfInBounds_toArray, List.set_cons_zero, List.set_cons_succ, i64_w, i32_w]; rfl)))
        (refine pure_ (i := 11) (N := some 42) (v := bif bw then .pointer (some ⟨w.heap.size, 2, none⟩) else undef) (a' := ?_) (fl_ 71 1474444583223401385983) rfl rfl (any_of HT_.out (by kernel_rfl)) (fun _ _ _ h => h) (yields_g (bw) (.pointer (some ⟨w.heap.size, 2, none⟩)) ?hw ?hv) ?ha ?_; (case hw => cases bw <;> rfl); (case hv => intro hg w'; (subst hg) <;> ((try simp only [cond_true, Bool.and_true, Bool.true_and]); go_simp; (try with_reducible rfl))); (case ha => (simp only [Act.put, List.setIfInBounds_toArray, List.set_cons_zero, List.set_cons_succ, i64_w, i32_w]; rfl)))
        (refine take_ (i := 12) (N := some 43) (v := bif bw then .string a0_2 else undef) (a' := ?_) (fl_ 71 1474444583223401390079) rfl rfl (take_ofW HT_.out HW_.out (by kernel_rfl)) (fun _ _ _ h => h) (yieldsIf_g (bw) (.string a0_2) ?hw ?hv) hHeld ?ha ?_; (case hw => cases bw <;> rfl); (case hv => intro hg w' hs_; obtain ⟨s0, s1, s2, s3, s4, s5, s6, s7⟩ := hs_; (subst hg) <;> ((try simp only [cond_true, Bool.and_true, Bool.true_and]); go_simp; (try with_reducible rfl))); (case ha => (simp only [Act.put, List.setIfInBounds_toArray, List.set_cons_zero, List.set_cons_succ, i64_w, i32_w]; rfl)))
        (refine pure_ (i := 13) (N := some 44) (v := bif bw then .bool (!gw) else undef) (a' := ?_) (fl_ 71 1474444583223401398271) rfl rfl (any_of HT_.out (by kernel_rfl)) (fun _ _ _ h => h) (yields_g (bw) (.bool (!gw)) ?hw ?hv) ?ha ?_; (case hw => cases bw <;> rfl); (case hv => intro hg w'; (subst hg) <;> ((try simp only [cond_true, Bool.and_true, Bool.true_and]); go_simp; (try with_reducible rfl))); (case ha => (simp only [Act.put, List.setIfInBounds_toArray, List.set_cons_zero, List.set_cons_succ, i64_w, i32_w]; rfl)))
        (refine pure_ (i := 14) (N := some 45) (v := bif bw then .bool (!gw) else undef) (a' := ?_) (fl_ 71 1474444583223401414655) rfl rfl (any_of HT_.out (by kernel_rfl)) (fun _ _ _ h => h) (yields_g (bw) (.bool (!gw)) ?hw ?hv) ?ha ?_; (case hw => cases bw <;> rfl); (case hv => intro hg w'; (subst hg) <;> ((try simp only [cond_true, Bool.and_true, Bool.true_and]); go_simp; (try with_reducible rfl))); (case ha => (simp only [Act.put, List.setIfInBounds_toArray, List.set_cons_zero, List.set_cons_succ, i64_w, i32_w]; rfl)))
        (refine take_ (i := 15) (N := some 46) (v := bif (bw && gw) then .agg #[.int .i64 a0_0, .string a0_1, .string a0_2, .string a0_3, .string a0_4, .int .i64 a0_5, .int .i64 a0_6, .int .u64 a0_7] else undef) (a' := ?_) (fl_ 71 1474444583223401447423) rfl rfl (take_ofW HT_.out HW_.out (by kernel_rfl)) (fun _ _ _ h => h) (yieldsIf_g ((bw && gw)) (.agg #[.int .i64 a0_0, .string a0_1, .string a0_2, .string a0_3, .string a0_4, .int .i64 a0_5, .int .i64 a0_6, .int .u64 a0_7]) ?hw ?hv) hHeld ?ha ?_; (case hw => cases bw <;> cases gw <;> rfl); (case hv => intro hg w' hs_; obtain ⟨s0, s1, s2, s3, s4, s5, s6, s7⟩ := hs_; (have hg1 := (Bool.and_eq_true_iff.mp hg).1; have hg2 := (Bool.and_eq_true_iff.mp hg).2; subst hg1; subst hg2) <;> ((try simp only [cond_true, Bool.and_true, Bool.true_and]); go_simp; (try with_reducible rfl))); (case ha => (simp only [Act.put, List.setIfInBounds_toArray, List.set_cons_zero, List.set_cons_succ, i64_w, i32_w]; rfl)))
        (refine one_join (i := 16) (N := some 47) (fl_ 71 1474444583223401512959) (fun W => CI w #[.int .i64 a0_0, .string a0_1, .string a0_2, .string a0_3, .string a0_4, .int .i64 a0_5, .int .i64 a0_6, .int .u64 a0_7] W) (bif (bw && gw) then .bool bk else undef) rfl rfl (one_of HT_.out (by kernel_rfl)) (by decide) ?hst ?_)
        case hst =>
          intro K hK
          cases bw with
          | false => exact hK _ hci hHeld
          | true =>
            cases gw with
            | false => exact hK _ hci hHeld
            | true =>
              refine goes_ Tryd.func17 (by kernel_rfl) rfl #[.agg #[.int .i64 a0_0, .string a0_1, .string a0_2, .string a0_3, .string a0_4, .int .i64 a0_5, .int .i64 a0_6, .int .u64 a0_7]] (by rfl) rfl rfl (by (try simp only [List.map_toArray, List.map_cons, List.map_nil]); first | done | rfl) ?_
              refine (HK.out _ hci.glob).mono ?_
              rintro e w5 ⟨rfl, hb⟩
              refine ⟨_, rfl, ?_⟩
              have hci := hci.step hb
              exact hK _ hci ⟨(blk_cell hci.blk 0).trans rfl, (blk_cell hci.blk 1).trans rfl, (blk_cell hci.blk 2).trans rfl, (blk_cell hci.blk 3).trans rfl, (blk_cell hci.blk 4).trans rfl, (blk_cell hci.blk 5).trans rfl, (blk_cell hci.blk 6).trans rfl, (blk_cell hci.blk 7).trans rfl⟩
        clear hHeld
        clear hci
        intro w5 hci hHeld
        refine norm_ (a' := ?_) ?_ ?_; rotate_left; (· (show Act.put _ (some 47) _ = _; simp only [Act.put, List.setIfInBounds_toArray, List.set_cons_zero, List.set_cons_succ, i64_w, i32_w]; rfl))
        (refine pure_ (i := 17) (N := some 48) (v := bif bw then .bool (!gw || bk) else undef) (a' := ?_) (fl_ 71 1474444583223401644031) rfl rfl (any_of HT_.out (by kernel_rfl)) (fun _ _ _ h => h) (yields_g (bw) (.bool (!gw || bk)) ?hw ?hv) ?ha ?_; (case hw => cases bw <;> rfl); (case hv => intro hg w'; (subst hg; cases gw) <;> ((try simp only [cond_true, Bool.and_true, Bool.true_and]); go_simp; (try with_reducible rfl))); (case ha => (simp only [Act.put, List.setIfInBounds_toArray, List.set_cons_zero, List.set_cons_succ, i64_w, i32_w]; rfl)))
        (refine pure_ (i := 18) (N := some 49) (v := .bool (bw && (!gw || bk))) (a' := ?_) (fl_ 71 1474444583223401906175) rfl rfl (any_of HT_.out (by kernel_rfl)) (fun _ _ _ h => h) (Or.inl ⟨by rfl, ?hv⟩) ?ha ?_; (case hv => intro w'; cases bw <;> (go_simp; (try with_reducible rfl))); (case ha => (simp only [Act.put, List.setIfInBounds_toArray, List.set_cons_zero, List.set_cons_succ, i64_w, i32_w]; rfl)))
        (refine pure_ (i := 22) (N := some 53) (v := ?_) (a' := ?_) (fl_ 71 1474444583223406100479) rfl rfl (any_of HT_.out (by kernel_rfl)) (fun _ _ _ h => h) (Or.inl ⟨by rfl, ?_⟩) ?_ ?_; rotate_left; (· (intro w'; go_simp; with_reducible rfl)); rotate_left; (· (simp only [Act.put, List.setIfInBounds_toArray, List.set_cons_zero, List.set_cons_succ, i64_w, i32_w]; rfl)))
        (refine one_ (i := 25) (N := some 56) (fl_ 71 1474444583223439654911) rfl rfl (one_of HT_.out (by kernel_rfl)) (by decide) (fun K hK => ?_); refine goes_ Tryd.func37 (by kernel_rfl) rfl #[.string a0_3] (by rfl) rfl rfl (by (try simp only [List.map_toArray, List.map_cons, List.map_nil]); first | done | rfl) ?_; refine (HA.out _ hci.glob).mono ?_; rintro e w6 ⟨rfl, hb⟩; refine ⟨_, rfl, ?_⟩; replace hci := hci.step hb; clear hb; refine hK.out _ _ ⟨(blk_cell hci.blk 0).trans rfl, (blk_cell hci.blk 1).trans rfl, (blk_cell hci.blk 2).trans rfl, (blk_cell hci.blk 3).trans rfl, (blk_cell hci.blk 4).trans rfl, (blk_cell hci.blk 5).trans rfl, (blk_cell hci.blk 6).trans rfl, (blk_cell hci.blk 7).trans rfl⟩ (fun hHeld => ?_); clear hK K; refine norm_ (a' := ?_) ?_ ?_; rotate_left; (· (show Act.put _ (some 56) _ = _; simp only [Act.put, List.setIfInBounds_toArray, List.set_cons_zero, List.set_cons_succ, i64_w, i32_w]; rfl)))
        (refine pure_ (i := 29) (N := some 60) (v := ?_) (a' := ?_) (fl_ 71 1474444583223976525823) rfl rfl (any_of HT_.out (by kernel_rfl)) (fun _ _ _ h => h) (Or.inl ⟨by rfl, ?_⟩) ?_ ?_; rotate_left; (· (intro w'; go_simp; with_reducible rfl)); rotate_left; (· (simp only [Act.put, List.setIfInBounds_toArray, List.set_cons_zero, List.set_cons_succ, i64_w, i32_w]; rfl)))
        (refine pure_ (i := 39) (N := some 70) (v := ?_) (a' := ?_) (fl_ 71 1474444583773732339711) rfl rfl (any_of HT_.out (by kernel_rfl)) (fun _ _ _ h => h) (Or.inl ⟨by rfl, ?_⟩) ?_ ?_; rotate_left; (· (intro w'; go_simp; with_reducible rfl)); rotate_left; (· (simp only [Act.put, List.setIfInBounds_toArray, List.set_cons_zero, List.set_cons_succ, i64_w, i32_w]; rfl)))
        (refine pure_ (i := 40) (N := some 71) (v := bif g5 then .pointer (some ⟨w.heap.size, 5, none⟩) else undef) (a' := ?_) (fl_ 71 1474444584873243967487) rfl rfl (any_of HT_.out (by kernel_rfl)) (fun _ _ _ h => h) (yields_g (g5) (.pointer (some ⟨w.heap.size, 5, none⟩)) ?hw ?hv) ?ha ?_; (case hw => cases g5 <;> rfl); (case hv => intro hg w'; (subst hg) <;> ((try simp only [cond_true, Bool.and_true, Bool.true_and]); go_simp; (try with_reducible rfl))); (case ha => (simp only [Act.put, List.setIfInBounds_toArray, List.set_cons_zero, List.set_cons_succ, i64_w, i32_w]; rfl)))
        (refine pure_ (i := 51) (N := some 82) (v := ?_) (a' := ?_) (fl_ 71 1474446836673057652735) rfl rfl (any_of HT_.out (by kernel_rfl)) (fun _ _ _ h => h) (Or.inl ⟨by rfl, ?_⟩) ?_ ?_; rotate_left; (· (intro w'; go_simp; with_reducible rfl)); rotate_left; (· (simp only [Act.put, List.setIfInBounds_toArray, List.set_cons_zero, List.set_cons_succ, i64_w, i32_w]; rfl)))
        (refine pure_ (i := 52) (N := some 83) (v := bif g6 then .pointer (some ⟨w.heap.size, 6, none⟩) else undef) (a' := ?_) (fl_ 71 1474451340272685023231) rfl rfl (any_of HT_.out (by kernel_rfl)) (fun _ _ _ h => h) (yields_g (g6) (.pointer (some ⟨w.heap.size, 6, none⟩)) ?hw ?hv) ?ha ?_; (case hw => cases g6 <;> rfl); (case hv => intro hg w'; (subst hg) <;> ((try simp only [cond_true, Bool.and_true, Bool.true_and]); go_simp; (try with_reducible rfl))); (case ha => (simp only [Act.put, List.setIfInBounds_toArray, List.set_cons_zero, List.set_cons_succ, i64_w, i32_w]; rfl)))
        (refine pure_ (i := 54) (N := some 85) (v := bif g6 then .int .i64 mo else undef) (a' := ?_) (fl_ 71 1474469354671194505215) rfl rfl (any_of HT_.out (by kernel_rfl)) (fun _ _ _ h => h) (yields_g (g6) (.int .i64 mo) ?hw ?hv) ?ha ?_; (case hw => cases g6 <;> rfl); (case hv => intro hg w'; (subst hg) <;> ((try simp only [cond_true, Bool.and_true, Bool.true_and]); go_simp; (try with_reducible rfl))); (case ha => (simp only [Act.put, List.setIfInBounds_toArray, List.set_cons_zero, List.set_cons_succ, i64_w, i32_w]; rfl)))
        (refine take_ (i := 41) (N := some 72) (v := bif g5 then .int .i64 a0_5 else undef) (a' := ?_) (fl_ 71 1474469356870217760767) rfl rfl (take_ofW HT_.out HW_.out (by kernel_rfl)) (fun _ _ _ h => h) (yieldsIf_g (g5) (.int .i64 a0_5) ?hw ?hv) hHeld ?ha ?_; (case hw => cases g5 <;> rfl); (case hv => intro hg w' hs_; obtain ⟨s0, s1, s2, s3, s4, s5, s6, s7⟩ := hs_; (subst hg) <;> ((try simp only [cond_true, Bool.and_true, Bool.true_and]); go_simp; (try with_reducible rfl))); (case ha => (simp only [Act.put, List.setIfInBounds_toArray, List.set_cons_zero, List.set_cons_succ, i64_w, i32_w]; rfl)))
        (refine pure_ (i := 42) (N := some 73) (v := bif g5 then .bool (decide (a0_5 ≤ 1000000)) else undef) (a' := ?_) (fl_ 71 1474469361268264271871) rfl rfl (any_of HT_.out (by kernel_rfl)) (fun _ _ _ h => h) (yields_g (g5) (.bool (decide (a0_5 ≤ 1000000))) ?hw ?hv) ?ha ?_; (case hw => cases g5 <;> rfl); (case hv => intro hg w'; (subst hg) <;> ((try simp only [cond_true, Bool.and_true, Bool.true_and]); go_simp; (try with_reducible rfl))); (case ha => (simp only [Act.put, List.setIfInBounds_toArray, List.set_cons_zero, List.set_cons_succ, i64_w, i32_w]; rfl)))
        (refine pure_ (i := 43) (N := some 74) (v := .bool (g5 && decide (a0_5 ≤ 1000000))) (a' := ?_) (fl_ 71 1474469370064357294079) rfl rfl (any_of HT_.out (by kernel_rfl)) (fun _ _ _ h => h) (Or.inl ⟨by rfl, ?hv⟩) ?ha ?_; (case hv => intro w'; cases g5 <;> (go_simp; (try with_reducible rfl))); (case ha => (simp only [Act.put, List.setIfInBounds_toArray, List.set_cons_zero, List.set_cons_succ, i64_w, i32_w]; rfl)))
        (refine pure_ (i := 47) (N := some 78) (v := ?_) (a' := ?_) (fl_ 71 1474469510801845649407) rfl rfl (any_of HT_.out (by kernel_rfl)) (fun _ _ _ h => h) (Or.inl ⟨by rfl, ?_⟩) ?_ ?_; rotate_left; (· (intro w'; go_simp; with_reducible rfl)); rotate_left; (· (simp only [Act.put, List.setIfInBounds_toArray, List.set_cons_zero, List.set_cons_succ, i64_w, i32_w]; rfl)))
        (refine take_ (i := 53) (N := some 84) (v := bif g6 then .int .i64 a0_6 else undef) (a' := ?_) (fl_ 71 1474478518001100390399) rfl rfl (take_ofW HT_.out HW_.out (by kernel_rfl)) (fun _ _ _ h => h) (yieldsIf_g (g6) (.int .i64 a0_6) ?hw ?hv) hHeld ?ha ?_; (case hw => cases g6 <;> rfl); (case hv => intro hg w' hs_; obtain ⟨s0, s1, s2, s3, s4, s5, s6, s7⟩ := hs_; (subst hg) <;> ((try simp only [cond_true, Bool.and_true, Bool.true_and]); go_simp; (try with_reducible rfl))); (case ha => (simp only [Act.put, List.setIfInBounds_toArray, List.set_cons_zero, List.set_cons_succ, i64_w, i32_w]; rfl)))
        (refine pure_ (i := 55) (N := some 86) (v := bif g6 then .bool (decide (a0_6 ≤ mo)) else undef) (a' := ?_) (fl_ 71 1474514546798119354367) rfl rfl (any_of HT_.out (by kernel_rfl)) (fun _ _ _ h => h) (yields_g (g6) (.bool (decide (a0_6 ≤ mo))) ?hw ?hv) ?ha ?_; (case hw => cases g6 <;> rfl); (case hv => intro hg w'; (subst hg) <;> ((try simp only [cond_true, Bool.and_true, Bool.true_and]); go_simp; (try with_reducible rfl))); (case ha => (simp only [Act.put, List.setIfInBounds_toArray, List.set_cons_zero, List.set_cons_succ, i64_w, i32_w]; rfl)))
        (refine pure_ (i := 56) (N := some 87) (v := .bool (g6 && decide (a0_6 ≤ mo))) (a' := ?_) (fl_ 71 1474586604392157282303) rfl rfl (any_of HT_.out (by kernel_rfl)) (fun _ _ _ h => h) (Or.inl ⟨by rfl, ?hv⟩) ?ha ?_; (case hv => intro w'; cases g6 <;> (go_simp; (try with_reducible rfl))); (case ha => (simp only [Act.put, List.setIfInBounds_toArray, List.set_cons_zero, List.set_cons_succ, i64_w, i32_w]; rfl)))
        (refine pure_ (i := 60) (N := some 91) (v := ?_) (a' := ?_) (fl_ 71 1475739525896764129279) rfl rfl (any_of HT_.out (by kernel_rfl)) (fun _ _ _ h => h) (Or.inl ⟨by rfl, ?_⟩) ?_ ?_; rotate_left; (· (intro w'; go_simp; with_reducible rfl)); rotate_left; (· (simp only [Act.put, List.setIfInBounds_toArray, List.set_cons_zero, List.set_cons_succ, i64_w, i32_w]; rfl)))
        (refine one_ (i := 68) (N := some 99) (fl_ 71 1770887431076116955135) rfl rfl (one_of HT_.out (by kernel_rfl)) (by decide) (fun K hK => ?_); refine lit_step (by rfl) (e := 58) (inner := #[.int .i64 1, .bool bs, .bool (a0_1.toList == []), .int .i64 2, .bool (bw && (!gw || bk)), .bool (a0_2.toList == []), .int .i64 4, .bool bu, .bool (a0_3.toList == []), .int .i64 8, .bool (em == 0), .bool (a0_4.toList == []), .int .i64 16, .bool (g5 && decide (a0_5 ≤ 1000000)), .bool (a0_5 == 0), .int .i64 32, .bool (g6 && decide (a0_6 ≤ mo)), .bool (a0_6 == 0), .int .i64 64, .bool (decide (a0_7 ≤ 4611686018427387904)), .bool (a0_7 == 0)]) (n := 7) ?hr ?_; (case hr => first | (go_simp; done) | (go_simp; rfl)); have hci2 := hci.step (below_alloc (Below.refl _ _) (.cells #[.int .i64 1, .bool bs, .bool (a0_1.toList == []), .int .i64 2, .bool (bw && (!gw || bk)), .bool (a0_2.toList == []), .int .i64 4, .bool bu, .bool (a0_3.toList == []), .int .i64 8, .bool (em == 0), .bool (a0_4.toList == []), .int .i64 16, .bool (g5 && decide (a0_5 ≤ 1000000)), .bool (a0_5 == 0), .int .i64 32, .bool (g6 && decide (a0_6 ≤ mo)), .bool (a0_6 == 0), .int .i64 64, .bool (decide (a0_7 ≤ 4611686018427387904)), .bool (a0_7 == 0)] 58)); have hblk := heap_alloc_new w6 (.cells #[.int .i64 1, .bool bs, .bool (a0_1.toList == []), .int .i64 2, .bool (bw && (!gw || bk)), .bool (a0_2.toList == []), .int .i64 4, .bool bu, .bool (a0_3.toList == []), .int .i64 8, .bool (em == 0), .bool (a0_4.toList == []), .int .i64 16, .bool (g5 && decide (a0_5 ≤ 1000000)), .bool (a0_5 == 0), .int .i64 32, .bool (g6 && decide (a0_6 ≤ mo)), .bool (a0_6 == 0), .int .i64 64, .bool (decide (a0_7 ≤ 4611686018427387904)), .bool (a0_7 == 0)] 58); clear hci; have hci := hci2; clear hci2; refine hK.out _ _ ⟨(blk_cell hci.blk 0).trans rfl, (blk_cell hci.blk 1).trans rfl, (blk_cell hci.blk 2).trans rfl, (blk_cell hci.blk 3).trans rfl, (blk_cell hci.blk 4).trans rfl, (blk_cell hci.blk 5).trans rfl, (blk_cell hci.blk 6).trans rfl, (blk_cell hci.blk 7).trans rfl⟩ (fun hHeld => ?_); clear hK K; refine norm_ (a' := ?_) ?_ ?_; rotate_left; (· (show Act.put _ (some 99) _ = _; simp only [Act.put, List.setIfInBounds_toArray, List.set_cons_zero, List.set_cons_succ, i64_w, i32_w]; rfl)))
        (refine pure_ (i := 69) (N := some 100) (v := ?_) (a' := ?_) (fl_ 71 2361183241434822606847) rfl rfl (any_of HT_.out (by kernel_rfl)) (fun _ _ _ h => h) (Or.inl ⟨by rfl, ?_⟩) ?_ ?_; rotate_left; (· (intro w'; go_simp; with_reducible rfl)); rotate_left; (· (simp only [Act.put, List.setIfInBounds_toArray, List.set_cons_zero, List.set_cons_succ, i64_w, i32_w]; rfl)))
        refine done_ (done_of HT_.out (by kernel_rfl)) ?_
        try go_wp2
        go_meet
        (case rel => exact ⟨w6.heap.size, rfl, rfl, rfl, Lib.hid hblk, Lib.hid hci⟩)
      case rest =>
        clear HCI
        obtain ⟨g, rfl, rfl, rfl, HBK, HCI⟩ := hcut
        have hM0 : mayW a0_0 a0_1 a0_2 a0_3 a0_4 a0_5 a0_6 a0_7 0 = bs := Hbs.out
        have hsw : sWorld.toList = ([119, 111, 114, 108, 100] : List UInt8) := by rw [toList_data]; rfl
        have hM1 : mayW a0_0 a0_1 a0_2 a0_3 a0_4 a0_5 a0_6 a0_7 1 = (bw && (!gw || bk)) := by rw [← Hbw.out, ← Hgw.out, ← Hbk.out, ← hsw]; rfl
        clear hsw
        have hM2 : mayW a0_0 a0_1 a0_2 a0_3 a0_4 a0_5 a0_6 a0_7 2 = bu := Hbu.out
        have hM3 : mayW a0_0 a0_1 a0_2 a0_3 a0_4 a0_5 a0_6 a0_7 3 = (em == 0) := by rw [← Hem.out]; rfl
        have hM4 : mayW a0_0 a0_1 a0_2 a0_3 a0_4 a0_5 a0_6 a0_7 4 = (g5 && decide (a0_5 ≤ 1000000)) := by rw [← Hg5.out]; rfl
        have hM5 : mayW a0_0 a0_1 a0_2 a0_3 a0_4 a0_5 a0_6 a0_7 5 = (g6 && decide (a0_6 ≤ mo)) := by rw [← Hg6.out, ← Hmo.out]; rfl
        have hM6 : mayW a0_0 a0_1 a0_2 a0_3 a0_4 a0_5 a0_6 a0_7 6 = decide (a0_7 ≤ 4611686018427387904) := rfl
        have HMM := Lib.hid (And.intro hM0 (And.intro hM1 (And.intro hM2 (And.intro hM3 (And.intro hM4 (And.intro hM5 hM6))))))
        clear hM0 hM1 hM2 hM3 hM4 hM5 hM6
        have HT : Hid (∀ i, i < 7 → (bits .and .i64 K ((2 ^ i : Nat) : Int) == 0) = !hasW a0_0 i) := Lib.hid (fun i hi => by rw [← HKK.out]; exact mask_test (by have := HN.out; omega) i hi)
        clear HW HO HA HM HK HD HG Hbs Hbw Hbu Hbk Hem HKK Hmo Hgw Hg5 Hg6 k1 k2
        go_wp2
        go_loopw [101] (fun i wr => ∃ k : Nat, k ≤ 7 ∧ i = .int .i64 k ∧ Hid (∀ j, j < k → okW a0_0 a0_1 a0_2 a0_3 a0_4 a0_5 a0_6 a0_7 j = true) ∧ Hid (wr.heap[g]? = some (.cells #[.int .i64 1, .bool bs, .bool (a0_1.toList == []), .int .i64 2, .bool (bw && (!gw || bk)), .bool (a0_2.toList == []), .int .i64 4, .bool bu, .bool (a0_3.toList == []), .int .i64 8, .bool (em == 0), .bool (a0_4.toList == []), .int .i64 16, .bool (g5 && decide (a0_5 ≤ 1000000)), .bool (a0_5 == 0), .int .i64 32, .bool (g6 && decide (a0_6 ≤ mo)), .bool (a0_6 == 0), .int .i64 64, .bool (decide (a0_7 ≤ 4611686018427387904)), .bool (a0_7 == 0)] 58 (0, 0))) ∧ Hid (CI w #[.int .i64 a0_0, .string a0_1, .string a0_2, .string a0_3, .string a0_4, .int .i64 a0_5, .int .i64 a0_6, .int .u64 a0_7] wr)) (fun i _ => 7 - (intOf i).toNat)
        case atStart => exact ⟨0, Nat.zero_le _, rfl, Lib.hid (fun j hj => by omega), HBK, HCI⟩
        case round =>
          clear HBK HCI
          obtain ⟨k, hk, rfl, HP, HBK, HCI⟩ := hrel
          have hkc : k = 7 ∨ k = 0 ∨ k = 1 ∨ k = 2 ∨ k = 3 ∨ k = 4 ∨ k = 5 ∨ k = 6 := by omega
          clear hk
          rcases hkc with rfl | rfl | rfl | rfl | rfl | rfl | rfl | rfl
          · have HF : Hid (okCmd a0_0 a0_1 a0_2 a0_3 a0_4 a0_5 a0_6 a0_7 = true) := Lib.hid (okCmd_yes HN.out HP.out)
            go_wp2
            go_ret
            refine ⟨?_, HCI.out.below⟩
            rw [← HR.out, HF.out]
            rfl
          · obtain ⟨m, hm⟩ : ∃ m, bs = m := ⟨_, rfl⟩
            obtain ⟨n, hn⟩ : ∃ n, (a0_1.toList == []) = n := ⟨_, rfl⟩
            obtain ⟨h, hh⟩ : ∃ h, hasW a0_0 0 = h := ⟨_, rfl⟩
            have hok : okW a0_0 a0_1 a0_2 a0_3 a0_4 a0_5 a0_6 a0_7 0 = if h then m else n := by unfold okW; rw [hh, HMM.out.1, hm, ← hn]; rfl
            have t0 : (bits .and .i64 K 1 == 0) = !h := by have := HT.out 0 (by omega); rw [hh] at this; exact this
            have t1 : (bits .and .i64 K 1 != 0) = h := by rw [bne, t0, Bool.not_not]
            have d0 := blk_cell HBK.out 0; have d1 := blk_cell HBK.out 1; have d2 := blk_cell HBK.out 2
            simp only [List.getElem?_toArray, List.getElem?_cons_zero, List.getElem?_cons_succ] at d0 d1 d2
            rw [hm] at d1; rw [hn] at d2
            have Hok := Lib.hid hok; clear hok hm hn hh
            have HBK' := fun o => Lib.hid (blk_alloc HBK.out o)
            have HCI' := fun o => Lib.hid (HCI.out.step (below_alloc (Below.refl _ _) o))
            cases h with
            | true =>
              cases m with
              | true =>
                go_wp2
                go_roundw
                case rel => exact ⟨1, by omega, by go_num, Lib.hid (fun j hj => (Nat.lt_or_ge j 0).elim (fun hj' => HP.out j hj') (fun hj' => (show j = 0 from by omega) ▸ Hok.out)), HBK' _, HCI' _⟩
                case measure => simp [intOf]
              | false =>
                have HF := Lib.hid (okCmd_no (by omega) Hok.out)
                go_wp2
                go_ret
                refine ⟨?_, (HCI' _).out.below⟩
                rw [← HR.out, HF.out]
                rfl
            | false =>
              cases n with
              | true =>
                go_wp2
                go_roundw
                case rel => exact ⟨1, by omega, by go_num, Lib.hid (fun j hj => (Nat.lt_or_ge j 0).elim (fun hj' => HP.out j hj') (fun hj' => (show j = 0 from by omega) ▸ Hok.out)), HBK' _, HCI' _⟩
                case measure => simp [intOf]
              | false =>
                have HF := Lib.hid (okCmd_no (by omega) Hok.out)
                go_wp2
                go_ret
                refine ⟨?_, (HCI' _).out.below⟩
                rw [← HR.out, HF.out]
                rfl
          · obtain ⟨m, hm⟩ : ∃ m, (bw && (!gw || bk)) = m := ⟨_, rfl⟩
            obtain ⟨n, hn⟩ : ∃ n, (a0_2.toList == []) = n := ⟨_, rfl⟩
            obtain ⟨h, hh⟩ : ∃ h, hasW a0_0 1 = h := ⟨_, rfl⟩
            have hok : okW a0_0 a0_1 a0_2 a0_3 a0_4 a0_5 a0_6 a0_7 1 = if h then m else n := by unfold okW; rw [hh, HMM.out.2.1, hm, ← hn]; rfl
            have t0 : (bits .and .i64 K 2 == 0) = !h := by have := HT.out 1 (by omega); rw [hh] at this; exact this
            have t1 : (bits .and .i64 K 2 != 0) = h := by rw [bne, t0, Bool.not_not]
            have d0 := blk_cell HBK.out 3; have d1 := blk_cell HBK.out 4; have d2 := blk_cell HBK.out 5
            simp only [List.getElem?_toArray, List.getElem?_cons_zero, List.getElem?_cons_succ] at d0 d1 d2
            rw [hm] at d1; rw [hn] at d2
            have Hok := Lib.hid hok; clear hok hm hn hh
            have HBK' := fun o => Lib.hid (blk_alloc HBK.out o)
            have HCI' := fun o => Lib.hid (HCI.out.step (below_alloc (Below.refl _ _) o))
            cases h with
            | true =>
              cases m with
              | true =>
                go_wp2
                go_roundw
                case rel => exact ⟨2, by omega, by go_num, Lib.hid (fun j hj => (Nat.lt_or_ge j 1).elim (fun hj' => HP.out j hj') (fun hj' => (show j = 1 from by omega) ▸ Hok.out)), HBK' _, HCI' _⟩
                case measure => simp [intOf]
              | false =>
                have HF := Lib.hid (okCmd_no (by omega) Hok.out)
                go_wp2
                go_ret
                refine ⟨?_, (HCI' _).out.below⟩
                rw [← HR.out, HF.out]
                rfl
            | false =>
              cases n with
              | true =>
                go_wp2
                go_roundw
                case rel => exact ⟨2, by omega, by go_num, Lib.hid (fun j hj => (Nat.lt_or_ge j 1).elim (fun hj' => HP.out j hj') (fun hj' => (show j = 1 from by omega) ▸ Hok.out)), HBK' _, HCI' _⟩
                case measure => simp [intOf]
              | false =>
                have HF := Lib.hid (okCmd_no (by omega) Hok.out)
                go_wp2
                go_ret
                refine ⟨?_, (HCI' _).out.below⟩
                rw [← HR.out, HF.out]
                rfl
          · obtain ⟨m, hm⟩ : ∃ m, bu = m := ⟨_, rfl⟩
            obtain ⟨n, hn⟩ : ∃ n, (a0_3.toList == []) = n := ⟨_, rfl⟩
            obtain ⟨h, hh⟩ : ∃ h, hasW a0_0 2 = h := ⟨_, rfl⟩
            have hok : okW a0_0 a0_1 a0_2 a0_3 a0_4 a0_5 a0_6 a0_7 2 = if h then m else n := by unfold okW; rw [hh, HMM.out.2.2.1, hm, ← hn]; rfl
            have t0 : (bits .and .i64 K 4 == 0) = !h := by have := HT.out 2 (by omega); rw [hh] at this; exact this
            have t1 : (bits .and .i64 K 4 != 0) = h := by rw [bne, t0, Bool.not_not]
            have d0 := blk_cell HBK.out 6; have d1 := blk_cell HBK.out 7; have d2 := blk_cell HBK.out 8
            simp only [List.getElem?_toArray, List.getElem?_cons_zero, List.getElem?_cons_succ] at d0 d1 d2
            rw [hm] at d1; rw [hn] at d2
            have Hok := Lib.hid hok; clear hok hm hn hh
            have HBK' := fun o => Lib.hid (blk_alloc HBK.out o)
            have HCI' := fun o => Lib.hid (HCI.out.step (below_alloc (Below.refl _ _) o))
            cases h with
            | true =>
              cases m with
              | true =>
                go_wp2
                go_roundw
                case rel => exact ⟨3, by omega, by go_num, Lib.hid (fun j hj => (Nat.lt_or_ge j 2).elim (fun hj' => HP.out j hj') (fun hj' => (show j = 2 from by omega) ▸ Hok.out)), HBK' _, HCI' _⟩
                case measure => simp [intOf]
              | false =>
                have HF := Lib.hid (okCmd_no (by omega) Hok.out)
                go_wp2
                go_ret
                refine ⟨?_, (HCI' _).out.below⟩
                rw [← HR.out, HF.out]
                rfl
            | false =>
              cases n with
              | true =>
                go_wp2
                go_roundw
                case rel => exact ⟨3, by omega, by go_num, Lib.hid (fun j hj => (Nat.lt_or_ge j 2).elim (fun hj' => HP.out j hj') (fun hj' => (show j = 2 from by omega) ▸ Hok.out)), HBK' _, HCI' _⟩
                case measure => simp [intOf]
              | false =>
                have HF := Lib.hid (okCmd_no (by omega) Hok.out)
                go_wp2
                go_ret
                refine ⟨?_, (HCI' _).out.below⟩
                rw [← HR.out, HF.out]
                rfl
          · obtain ⟨m, hm⟩ : ∃ m, (em == 0) = m := ⟨_, rfl⟩
            obtain ⟨n, hn⟩ : ∃ n, (a0_4.toList == []) = n := ⟨_, rfl⟩
            obtain ⟨h, hh⟩ : ∃ h, hasW a0_0 3 = h := ⟨_, rfl⟩
            have hok : okW a0_0 a0_1 a0_2 a0_3 a0_4 a0_5 a0_6 a0_7 3 = if h then m else n := by unfold okW; rw [hh, HMM.out.2.2.2.1, hm, ← hn]; rfl
            have t0 : (bits .and .i64 K 8 == 0) = !h := by have := HT.out 3 (by omega); rw [hh] at this; exact this
            have t1 : (bits .and .i64 K 8 != 0) = h := by rw [bne, t0, Bool.not_not]
            have d0 := blk_cell HBK.out 9; have d1 := blk_cell HBK.out 10; have d2 := blk_cell HBK.out 11
            simp only [List.getElem?_toArray, List.getElem?_cons_zero, List.getElem?_cons_succ] at d0 d1 d2
            rw [hm] at d1; rw [hn] at d2
            have Hok := Lib.hid hok; clear hok hm hn hh
            have HBK' := fun o => Lib.hid (blk_alloc HBK.out o)
            have HCI' := fun o => Lib.hid (HCI.out.step (below_alloc (Below.refl _ _) o))
            cases h with
            | true =>
              cases m with
              | true =>
                go_wp2
                go_roundw
                case rel => exact ⟨4, by omega, by go_num, Lib.hid (fun j hj => (Nat.lt_or_ge j 3).elim (fun hj' => HP.out j hj') (fun hj' => (show j = 3 from by omega) ▸ Hok.out)), HBK' _, HCI' _⟩
                case measure => simp [intOf]
              | false =>
                have HF := Lib.hid (okCmd_no (by omega) Hok.out)
                go_wp2
                go_ret
                refine ⟨?_, (HCI' _).out.below⟩
                rw [← HR.out, HF.out]
                rfl
            | false =>
              cases n with
              | true =>
                go_wp2
                go_roundw
                case rel => exact ⟨4, by omega, by go_num, Lib.hid (fun j hj => (Nat.lt_or_ge j 3).elim (fun hj' => HP.out j hj') (fun hj' => (show j = 3 from by omega) ▸ Hok.out)), HBK' _, HCI' _⟩
                case measure => simp [intOf]
              | false =>
                have HF := Lib.hid (okCmd_no (by omega) Hok.out)
                go_wp2
                go_ret
                refine ⟨?_, (HCI' _).out.below⟩
                rw [← HR.out, HF.out]
                rfl
          · obtain ⟨m, hm⟩ : ∃ m, (g5 && decide (a0_5 ≤ 1000000)) = m := ⟨_, rfl⟩
            obtain ⟨n, hn⟩ : ∃ n, (a0_5 == 0) = n := ⟨_, rfl⟩
            obtain ⟨h, hh⟩ : ∃ h, hasW a0_0 4 = h := ⟨_, rfl⟩
            have hok : okW a0_0 a0_1 a0_2 a0_3 a0_4 a0_5 a0_6 a0_7 4 = if h then m else n := by unfold okW; rw [hh, HMM.out.2.2.2.2.1, hm, ← hn]; rfl
            have t0 : (bits .and .i64 K 16 == 0) = !h := by have := HT.out 4 (by omega); rw [hh] at this; exact this
            have t1 : (bits .and .i64 K 16 != 0) = h := by rw [bne, t0, Bool.not_not]
            have d0 := blk_cell HBK.out 12; have d1 := blk_cell HBK.out 13; have d2 := blk_cell HBK.out 14
            simp only [List.getElem?_toArray, List.getElem?_cons_zero, List.getElem?_cons_succ] at d0 d1 d2
            rw [hm] at d1; rw [hn] at d2
            have Hok := Lib.hid hok; clear hok hm hn hh
            have HBK' := fun o => Lib.hid (blk_alloc HBK.out o)
            have HCI' := fun o => Lib.hid (HCI.out.step (below_alloc (Below.refl _ _) o))
            cases h with
            | true =>
              cases m with
              | true =>
                go_wp2
                go_roundw
                case rel => exact ⟨5, by omega, by go_num, Lib.hid (fun j hj => (Nat.lt_or_ge j 4).elim (fun hj' => HP.out j hj') (fun hj' => (show j = 4 from by omega) ▸ Hok.out)), HBK' _, HCI' _⟩
                case measure => simp [intOf]
              | false =>
                have HF := Lib.hid (okCmd_no (by omega) Hok.out)
                go_wp2
                go_ret
                refine ⟨?_, (HCI' _).out.below⟩
                rw [← HR.out, HF.out]
                rfl
            | false =>
              cases n with
              | true =>
                go_wp2
                go_roundw
                case rel => exact ⟨5, by omega, by go_num, Lib.hid (fun j hj => (Nat.lt_or_ge j 4).elim (fun hj' => HP.out j hj') (fun hj' => (show j = 4 from by omega) ▸ Hok.out)), HBK' _, HCI' _⟩
                case measure => simp [intOf]
              | false =>
                have HF := Lib.hid (okCmd_no (by omega) Hok.out)
                go_wp2
                go_ret
                refine ⟨?_, (HCI' _).out.below⟩
                rw [← HR.out, HF.out]
                rfl
          · obtain ⟨m, hm⟩ : ∃ m, (g6 && decide (a0_6 ≤ mo)) = m := ⟨_, rfl⟩
            obtain ⟨n, hn⟩ : ∃ n, (a0_6 == 0) = n := ⟨_, rfl⟩
            obtain ⟨h, hh⟩ : ∃ h, hasW a0_0 5 = h := ⟨_, rfl⟩
            have hok : okW a0_0 a0_1 a0_2 a0_3 a0_4 a0_5 a0_6 a0_7 5 = if h then m else n := by unfold okW; rw [hh, HMM.out.2.2.2.2.2.1, hm, ← hn]; rfl
            have t0 : (bits .and .i64 K 32 == 0) = !h := by have := HT.out 5 (by omega); rw [hh] at this; exact this
            have t1 : (bits .and .i64 K 32 != 0) = h := by rw [bne, t0, Bool.not_not]
            have d0 := blk_cell HBK.out 15; have d1 := blk_cell HBK.out 16; have d2 := blk_cell HBK.out 17
            simp only [List.getElem?_toArray, List.getElem?_cons_zero, List.getElem?_cons_succ] at d0 d1 d2
            rw [hm] at d1; rw [hn] at d2
            have Hok := Lib.hid hok; clear hok hm hn hh
            have HBK' := fun o => Lib.hid (blk_alloc HBK.out o)
            have HCI' := fun o => Lib.hid (HCI.out.step (below_alloc (Below.refl _ _) o))
            cases h with
            | true =>
              cases m with
              | true =>
                go_wp2
                go_roundw
                case rel => exact ⟨6, by omega, by go_num, Lib.hid (fun j hj => (Nat.lt_or_ge j 5).elim (fun hj' => HP.out j hj') (fun hj' => (show j = 5 from by omega) ▸ Hok.out)), HBK' _, HCI' _⟩
                case measure => simp [intOf]
              | false =>
                have HF := Lib.hid (okCmd_no (by omega) Hok.out)
                go_wp2
                go_ret
                refine ⟨?_, (HCI' _).out.below⟩
                rw [← HR.out, HF.out]
                rfl
            | false =>
              cases n with
              | true =>
                go_wp2
                go_roundw
                case rel => exact ⟨6, by omega, by go_num, Lib.hid (fun j hj => (Nat.lt_or_ge j 5).elim (fun hj' => HP.out j hj') (fun hj' => (show j = 5 from by omega) ▸ Hok.out)), HBK' _, HCI' _⟩
                case measure => simp [intOf]
              | false =>
                have HF := Lib.hid (okCmd_no (by omega) Hok.out)
                go_wp2
                go_ret
                refine ⟨?_, (HCI' _).out.below⟩
                rw [← HR.out, HF.out]
                rfl
          · obtain ⟨m, hm⟩ : ∃ m, (decide (a0_7 ≤ 4611686018427387904)) = m := ⟨_, rfl⟩
            obtain ⟨n, hn⟩ : ∃ n, (a0_7 == 0) = n := ⟨_, rfl⟩
            obtain ⟨h, hh⟩ : ∃ h, hasW a0_0 6 = h := ⟨_, rfl⟩
            have hok : okW a0_0 a0_1 a0_2 a0_3 a0_4 a0_5 a0_6 a0_7 6 = if h then m else n := by unfold okW; rw [hh, HMM.out.2.2.2.2.2.2, hm, ← hn]; rfl
            have t0 : (bits .and .i64 K 64 == 0) = !h := by have := HT.out 6 (by omega); rw [hh] at this; exact this
            have t1 : (bits .and .i64 K 64 != 0) = h := by rw [bne, t0, Bool.not_not]
            have d0 := blk_cell HBK.out 18; have d1 := blk_cell HBK.out 19; have d2 := blk_cell HBK.out 20
            simp only [List.getElem?_toArray, List.getElem?_cons_zero, List.getElem?_cons_succ] at d0 d1 d2
            rw [hm] at d1; rw [hn] at d2
            have Hok := Lib.hid hok; clear hok hm hn hh
            have HBK' := fun o => Lib.hid (blk_alloc HBK.out o)
            have HCI' := fun o => Lib.hid (HCI.out.step (below_alloc (Below.refl _ _) o))
            cases h with
            | true =>
              cases m with
              | true =>
                go_wp2
                go_roundw
                case rel => exact ⟨7, by omega, by go_num, Lib.hid (fun j hj => (Nat.lt_or_ge j 6).elim (fun hj' => HP.out j hj') (fun hj' => (show j = 6 from by omega) ▸ Hok.out)), HBK' _, HCI' _⟩
                case measure => simp [intOf]
              | false =>
                have HF := Lib.hid (okCmd_no (by omega) Hok.out)
                go_wp2
                go_ret
                refine ⟨?_, (HCI' _).out.below⟩
                rw [← HR.out, HF.out]
                rfl
            | false =>
              cases n with
              | true =>
                go_wp2
                go_roundw
                case rel => exact ⟨7, by omega, by go_num, Lib.hid (fun j hj => (Nat.lt_or_ge j 6).elim (fun hj' => HP.out j hj') (fun hj' => (show j = 6 from by omega) ▸ Hok.out)), HBK' _, HCI' _⟩
                case measure => simp [intOf]
              | false =>
                have HF := Lib.hid (okCmd_no (by omega) Hok.out)
                go_wp2
                go_ret
                refine ⟨?_, (HCI' _).out.below⟩
                rw [← HR.out, HF.out]
                rfl
  · have HF : Hid (okCmd a0_0 a0_1 a0_2 a0_3 a0_4 a0_5 a0_6 a0_7 = false) := Lib.hid (by
      unfold okCmd
      by_cases h1 : 1 ≤ a0_0
      · rw [decide_eq_false (show ¬ a0_0 ≤ 13 by omega)]; simp
      · rw [decide_eq_false h1]; simp)
    have hci := CI.start (cs := #[.int .i64 a0_0, .string a0_1, .string a0_2, .string a0_3, .string a0_4, .int .i64 a0_5, .int .i64 a0_6, .int .u64 a0_7]) hG
    by_cases k1 : a0_0 < 1
    · have k1' : decide (a0_0 < 1) = true := decide_eq_true k1
      clear k1 hk hG
      go_enter Tryd.func15, Tryd.ntmps15
      go_wp2
      go_ret
      refine ⟨?_, hci.below⟩
      rw [← HR.out, HF.out]
      rfl
    · have k1' : decide (a0_0 < 1) = false := decide_eq_false k1
      have k2' : decide (a0_0 > 13) = true := decide_eq_true (by omega)
      clear k1 hk hG
      go_enter Tryd.func15, Tryd.ntmps15
      go_wp2
      go_ret
      refine ⟨?_, hci.below⟩
      rw [← HR.out, HF.out]
      rfl
end Go.Proofs.YtdpdbmdnmgaeiaaDoor.E

