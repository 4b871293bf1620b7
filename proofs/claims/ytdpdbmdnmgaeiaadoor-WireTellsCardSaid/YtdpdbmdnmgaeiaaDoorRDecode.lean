/- The walk of cambistref20.Decode: it answers as wire.Decode. -/
import Derived.Test.YtdpdbmdnmgaeiaaDoorREncode
import Derived.Test.YtdpdbmdnmgaeiaaDoorRefB
import Derived.Test.YtdpdbmdnmgaeiaaDoorDecode
namespace Go.Proofs.YtdpdbmdnmgaeiaaDoor.E
open Go.RowKit Go.Proofs.YtdpdbmdnmgaeiaaDoor.P Go.Proofs.YtdpdbmdnmgaeiaaDoorW.PrintWords Go.Proofs.YtdpdbmdnmgaeiaaDoorW.PrintLast
def rdec6_T : Bool × List (List Nat × List Nat) := (true, [([], []), ([0], [0]), ([1], [1]), ([], []), ([3], [3]), ([2, 4], [2, 4])])
def rdec6_B : List Nat := [0, 1, 3, 0, 8, 31]
theorem rdec6_tab : rtab .any (opsOf Tryd.f14 6) = rdec6_T := by kernel_rfl
theorem rdec6_bits : waitsOk rdec6_T.2 rdec6_B = true := by kernel_rfl
structure RD (w : World) (bR bc : Nat) (v : Value) (L : List ByteArray) (cs : Array Value) (W : World) : Prop where
  res : W.heap[bR]? = some (.cells Z8 25 (0, 0))
  cmd : W.heap[bc]? = some (.cells cs 25 (0, 0))
  row : Kd.R Kd.string 9 W w.heap.size (fun _ => True) v L
  below : Below w.heap.size w W
  g0 : Glob w
  ge : w.heap.size ≤ bR ∧ w.heap.size ≤ bc
  ne : bR ≠ bc
theorem kindTo_one (x : ByteArray) : kindTo x 1 = 0 := by simp [kindTo]
section
variable {w W W' : World} {bR bc gh : Nat} {v : Value} {L : List ByteArray} {cs hs : Array Value}
theorem RD.glob (h : RD w bR bc v L cs W) : Glob W := h.g0.below h.below
theorem RD.step (h : RD w bR bc v L cs W) (hb : Below W.heap.size W W') : RD w bR bc v L cs W' := ⟨blk_below h.res hb, blk_below h.cmd hb, Kd.R_below h.row hb, below_then h.below h.below.size hb, h.g0, h.ge, h.ne⟩
theorem RD.setC (h : RD w bR bc v L cs W) (i : Nat) (u : Value) {cs' : Array Value} (e : cs.setIfInBounds i u = cs') : RD w bR bc v L cs' (W.setCell ⟨bc, i, none⟩ u) :=
  ⟨blk_off h.res h.ne u, blk_put h.cmd i u e, Kd.R_set h.row h.cmd (fun q hq => by rcases List.mem_cons.1 hq with rfl | hq; decide; cases hq) i u, below_cell h.below h.ge.2 u, h.g0, h.ge, h.ne⟩
theorem RD.mk1 {w1 : World} (hG : Glob w) (hb : Below (w.alloc (.cells Z8 25)).heap.size (w.alloc (.cells Z8 25)) w1) (hR : Kd.R Kd.string 9 w1 (w.alloc (.cells Z8 25)).heap.size (fun _ => True) v L) :
    RD w w.heap.size w1.heap.size v L Z8 (w1.alloc (.cells Z8 25)) := by
  have h0 := heap_alloc_new w (.cells Z8 25)
  have hs := hb.size
  rw [size_alloc] at hs
  exact ⟨blk_alloc (blk_below h0 hb) _, heap_alloc_new _ _, Kd.R_below (Kd.R_lower hR (by rw [size_alloc]; omega)) (below_alloc (Below.refl _ _) _), below_alloc (below_then (below_alloc (Below.refl _ _) _) (by rw [size_alloc]; omega) hb) _, hG, ⟨Nat.le_refl _, by omega⟩, by omega⟩
theorem RD.word {g cap : Nat} (h : RD w bR bc (.slice (some ⟨g, 0, none⟩) L.length cap) L cs W) {i : Nat} (hi : i < L.length) : W.cell? ⟨g, i, none⟩ = some (.string (L.getD i ByteArray.empty)) := by
  have := (Kd.R_cell ByteArray.empty h.row (i : Int) (by omega) (by omega)).1
  rw [Int.toNat_natCast] at this
  rw [this]
  simp [rdOf]
structure RE (w : World) (bR bc : Nat) (v : Value) (L : List ByteArray) (cs : Array Value) (gh : Nat) (hs : Array Value) (W : World) : Prop where
  a : RD w bR bc v L cs W
  has : W.heap[gh]? = some (.cells hs 46 (0, 0))
theorem RE.step (h : RE w bR bc v L cs gh hs W) (hb : Below W.heap.size W W') : RE w bR bc v L cs gh hs W' := ⟨h.a.step hb, blk_below h.has hb⟩
theorem RE.setC (h : RE w bR bc v L cs gh hs W) (i : Nat) (u : Value) {cs' : Array Value} (e : cs.setIfInBounds i u = cs') : RE w bR bc v L cs' gh hs (W.setCell ⟨bc, i, none⟩ u) := ⟨h.a.setC i u e, blk_off h.has (blk_ne h.has h.a.cmd (by decide)) u⟩
end
theorem nextS_false {L : List ByteArray} {j j' : Nat} {r r' : Bool} {q : ByteArray} (h : nextS L false (j, r) = (q, j', r')) : q = ⟨#[]⟩ ∧ j' = j ∧ r' = r := by
  simp only [nextS, Prod.mk.injEq] at h
  exact ⟨h.1.symm, h.2.1.symm, by simpa using h.2.2.symm⟩
theorem nextS_true {L : List ByteArray} {j j' : Nat} {r r' : Bool} {q : ByteArray} (hj : j < L.length) (h : nextS L true (j, r) = (q, j', r')) : q = L.getD j ByteArray.empty ∧ j' = j + 1 ∧ r' = r := by
  simp only [nextS, Prod.mk.injEq, if_true] at h
  refine ⟨h.1.symm, by rw [← h.2.1]; omega, ?_⟩
  rw [← h.2.2, decide_eq_false (by omega)]
  simp
theorem nextS_out {L : List ByteArray} {j j' : Nat} {r r' : Bool} {q : ByteArray} (hj : L.length ≤ j) (h : nextS L true (j, r) = (q, j', r')) : r' = true := by
  simp only [nextS, Prod.mk.injEq, if_true] at h
  rw [← h.2.2, decide_eq_true hj]
  simp
theorem st_wrong {L : List ByteArray} {K : Int} {n : Nat} (h : (stTo L K n).2 = true) : ∀ d, (stTo L K (n + d)).2 = true
  | 0 => h
  | d + 1 => by
    have ih := st_wrong h d
    show ((stTo L K (n + d)).2 || _) = true
    rw [ih]
    rfl
set_option maxHeartbeats 16000000 in
set_option maxRecDepth 100000 in
set_option linter.unusedSimpArgs false in
theorem ref_Decode.calls (A0 : Option Addr) (c0 : Nat) (l0 : List Int) (w : World) (hG : Glob w) (hr0 : Kd.C (Kd.int .u8) w A0 l0.length l0) (hl0 : l0.length ≤ 1000000) :
    Calls Tryd.prog 14 #[.slice A0 l0.length c0] w fun e w' => e = .returned (.tuple #[.agg (decS (strOfNums l0)).1.cs, .int .i64 (decS (strOfNums l0)).2]) ∧ Below w.heap.size w w' := by
  have hcv := fun o : Obj => Kd.C_string (P := Tryd.prog) (c := c0) Tryd.underlying26 Tryd.underlying5 Tryd.underlying9 (Kd.C_below hr0 (below_alloc (Below.refl _ w) o))
  have hss : (strOfNums l0).size ≤ 1000000 := by rw [← size_len]; simp [strOfNums]; omega
  obtain ⟨s, hs⟩ : ∃ s, s = strOfNums l0 := ⟨_, rfl⟩
  rw [← hs] at hcv hss ⊢
  obtain ⟨L, hL⟩ : ∃ L, L = splitOn s 32 := ⟨_, rfl⟩
  obtain ⟨kw, hkw⟩ := Ev.rounds (ref_words s hss)
  rw [← hL] at hkw
  have HS : Hid (∀ W, Glob W → Calls Tryd.prog 32 #[.string s] W fun e w' => ∃ v0_ : Value, e = .returned (v0_) ∧ Kd.R Kd.string 9 w' W.heap.size (fun _ => True) v0_ L ∧ Below W.heap.size W w') := Lib.hid fun W hW => cambistref19_Words.calls kw s L W hW hkw
  have hLl : 1 ≤ L.length ∧ L.length ≤ 1000002 := by rw [hL]; have := split_len s; omega
  have HLS : Hid (∀ x ∈ L, x.size ≤ 1000000) := Lib.hid (by rw [hL]; intro x hx; have := split_size s x hx; omega)
  have HFI : Hid (∀ k : Nat, 1 ≤ k → k ≤ 13 → ∀ W, Glob W → Calls Tryd.prog 27 #[.int .i64 (k : Int)] W fun e w' => e = .returned (.string (firsts.getD k ByteArray.empty)) ∧ Below W.heap.size W w') := Lib.hid fun k h1 h2 W hW => cambistref20_First.calls k _ W hW (by rw [ref_first (by omega)]; rfl)
  have HG := Lib.hid hG
  have HL := Lib.hid hL
  have HR0 := Lib.hid hr0
  have HSS : Hid (strOfNums l0 = s) := Lib.hid hs.symm
  have hn : 0 < L.length := by omega
  have HLL := Lib.hid hLl
  clear hL hs hG hr0 hss hkw hLl
  go_enter Tryd.func14, Tryd.ntmps14
  go_upto_region 3 with (go_at_call 32; refine (HS.out _ (HG.out.below (below_alloc (Below.refl _ _) _))).mono ?_; rintro e w1 ⟨v, rfl, hR, hb⟩; obtain ⟨g, cap, rfl, _, _, _⟩ := Kd.R_form hR hn; have HRD := Lib.hid (RD.mk1 HG.out hb hR); clear hR hb)
  clear HS hcv
  obtain ⟨bc, hbc⟩ : ∃ b, b = w1.heap.size := ⟨_, rfl⟩
  rw [← hbc] at HRD ⊢
  go_cut [6] (fun v6 wc => v6 = .int .i64 1 ∧ Hid (RD w w.heap.size bc (.slice (some ⟨g, 0, none⟩) L.length cap) L Z8 wc))
  case first =>
    go_wp2
    go_meet
    case rel => exact ⟨rfl, HRD⟩
  case rest =>
    clear HRD hbc
    obtain ⟨rfl, HRD⟩ := hcut
    obtain ⟨x, hx⟩ : ∃ x, x = L.getD 0 ByteArray.empty := ⟨_, rfl⟩
    have HXX := Lib.hid hx
    clear hx
    go_wp2
    go_loopw [6] (fun i wr => ∃ k : Nat, 1 ≤ k ∧ k ≤ 14 ∧ i = .int .i64 k ∧ Hid (RD w w.heap.size bc (.slice (some ⟨g, 0, none⟩) L.length cap) L #[.int .i64 (kindTo x k : Nat), .string ⟨#[]⟩, .string ⟨#[]⟩, .string ⟨#[]⟩, .string ⟨#[]⟩, .int .i64 0, .int .i64 0, .int .u64 0] wr)) (fun i _ => 14 - (intOf i).toNat)
    case atStart => exact ⟨1, by omega, by omega, rfl, by rw [kindTo_one]; exact HRD⟩
    case round =>
      clear HRD
      obtain ⟨k, hk0, hk, rfl, HRD⟩ := hrel
      rcases Nat.lt_or_ge k 14 with hlt | hge
      · have hk1 : decide ((k : Int) ≤ 13) = true := decide_eq_true (by omega)
        have hk2 : decide (k ≤ 13) = true := decide_eq_true (by omega)
        have HKN : Hid (kindTo x (k + 1) = if (firsts.getD k ByteArray.empty).toList == x.toList && decide (0 < k) then k else kindTo x k) := Lib.hid rfl
        have HKF := Lib.hid (HFI.out k hk0 (by omega))
        obtain ⟨f, hf⟩ : ∃ f, firsts.getD k ByteArray.empty = f := ⟨_, rfl⟩
        rw [hf] at HKF HKN
        obtain ⟨b, hb⟩ : ∃ b, (x.toList == f.toList) = b := ⟨_, rfl⟩
        have hbs : (f.toList == x.toList) = b := by rw [← hb, Bool.eq_iff_iff, beq_iff_eq, beq_iff_eq]; exact eq_comm
        rw [hbs, decide_eq_true (by omega : 0 < k), Bool.and_true] at HKN
        have hrd := HRD.out.step (below_drew1 (Below.refl _ _))
        have hX : ∀ (W : World) (cs : Array Value), RD w w.heap.size bc (.slice (some ⟨g, 0, none⟩) L.length cap) L cs W → W.cell? ⟨g, 0, none⟩ = some (.string x) := fun W cs h => by rw [HXX.out]; exact h.word hn
        have HX := Lib.hid hX
        clear hX hf hbs
        go_wp2
        refine start_ (n := 6) (S := fun w' => w'.cell? ⟨g, 0, none⟩ = some (.string x)) (ds := []) #[false, false, false, false, false, false] (by kernel_rfl) rfl rfl (HX.out _ _ hrd) (fun hHeld => ?_); refine with_tabW rdec6_tab rdec6_bits (fun HT_ HW_ => ?_)
        generalize wr.drew = w4 at hrd hHeld ⊢
        (refine pure_ (i := 0) (N := some 22) (v := ?_) (a' := ?_) (fl_ 6 1) rfl rfl (any_of HT_.out (by kernel_rfl)) (fun _ _ _ h => h) (Or.inl ⟨by rfl, ?_⟩) ?_ ?_; rotate_left; (· (intro w'; go_simp; with_reducible rfl)); rotate_left; (· (simp only [Act.put, List.setIfInBounds_toArray, List.set_cons_zero, List.set_cons_succ, i64_w, i32_w]; rfl)))
        (refine pure_ (i := 1) (N := some 23) (v := ?_) (a' := ?_) (fl_ 6 3) rfl rfl (any_of HT_.out (by kernel_rfl)) (fun _ _ _ h => h) (Or.inl ⟨by rfl, ?_⟩) ?_ ?_; rotate_left; (· (intro w'; go_simp; with_reducible rfl)); rotate_left; (· (simp only [Act.put, List.setIfInBounds_toArray, List.set_cons_zero, List.set_cons_succ, i64_w, i32_w]; rfl)))
        (refine pure_ (i := 3) (N := some 25) (v := ?_) (a' := ?_) (fl_ 6 11) rfl rfl (any_of HT_.out (by kernel_rfl)) (fun _ _ _ h => h) (Or.inl ⟨by rfl, ?_⟩) ?_ ?_; rotate_left; (· (intro w'; go_simp; with_reducible rfl)); rotate_left; (· (simp only [Act.put, List.setIfInBounds_toArray, List.set_cons_zero, List.set_cons_succ, i64_w, i32_w]; rfl)))
        (refine take_ (i := 2) (N := some 24) (v := ?_) (a' := ?_) (fl_ 6 15) rfl rfl (take_ofW HT_.out HW_.out (by kernel_rfl)) (fun _ _ _ h => h) (Or.inl ⟨by rfl, ?_⟩) hHeld ?_ ?_; rotate_left; (· (rintro w' s0; go_simp; with_reducible rfl)); rotate_left; (· (simp only [Act.put, List.setIfInBounds_toArray, List.set_cons_zero, List.set_cons_succ, i64_w, i32_w]; rfl)))
        refine one_ (i := 4) (N := some 26) (fl_ 6 31) rfl rfl (one_of HT_.out (by kernel_rfl)) (by decide) (fun K hK => ?_)
        refine goes_ Tryd.func27 (by kernel_rfl) rfl #[.int .i64 (k : Int)] (by rfl) rfl rfl (by (try simp only [List.map_toArray, List.map_cons, List.map_nil]); first | done | rfl) ?_
        refine (HKF.out _ hrd.glob).mono ?_
        rintro e w5 ⟨rfl, hb⟩
        refine ⟨_, rfl, ?_⟩
        have hrd' := hrd.step hb
        clear hrd hHeld
        have hrd := hrd'
        clear hrd' hb
        refine hK.out _ _ (HX.out _ _ hrd) (fun hHeld => ?_)
        clear hK K
        refine norm_ (a' := ?_) ?_ ?_; rotate_left; (· (show Act.put _ (some 26) _ = _; simp only [Act.put, List.setIfInBounds_toArray, List.set_cons_zero, List.set_cons_succ, i64_w, i32_w]; rfl))
        (refine pure_ (i := 5) (N := some 27) (v := ?_) (a' := ?_) (fl_ 6 63) rfl rfl (any_of HT_.out (by kernel_rfl)) (fun _ _ _ h => h) (Or.inl ⟨by rfl, ?_⟩) ?_ ?_; rotate_left; (· (intro w'; go_simp; with_reducible rfl)); rotate_left; (· (simp only [Act.put, List.setIfInBounds_toArray, List.set_cons_zero, List.set_cons_succ, i64_w, i32_w]; rfl)))
        refine done_ (done_of HT_.out (by kernel_rfl)) ?_
        cases b with
        | true =>
          have d2 : w5.cell? ⟨bc, 0, none⟩ = some (.int .i64 (kindTo x k : Nat)) := (blk_cell hrd.cmd 0).trans rfl
          have d3 : w5.frozen? ⟨bc, 0, none⟩ = false := blk_frozen hrd.cmd 0
          have HRD5 := Lib.hid hrd
          clear hrd hHeld HRD
          go_wp2
          go_roundw
          case rel => exact ⟨k + 1, by omega, by omega, by go_num, by rw [HKN.out]; exact Lib.hid (HRD5.out.setC 0 (.int .i64 (k : Int)) rfl)⟩
          case measure => simp [intOf]; omega
        | false =>
          have HRD5 := Lib.hid hrd
          clear hrd hHeld HRD
          go_wp2
          go_roundw
          case rel => exact ⟨k + 1, by omega, by omega, by go_num, by rw [HKN.out]; exact HRD5⟩
          case measure => simp [intOf]; omega
      · obtain rfl : k = 14 := by omega
        clear hk0 hk hge HFI
        obtain ⟨K, hK⟩ : ∃ K : Int, K = ((kindTo x 14 : Nat) : Int) := ⟨_, rfl⟩
        rw [← hK] at HRD
        have hKL : K = kindOf L := by rw [hK, HXX.out]; rfl
        have HK : Hid (0 ≤ K ∧ K ≤ 13) := Lib.hid (by rw [hKL]; exact kindOf_le L)
        have HKL := Lib.hid hKL
        clear hK hKL HXX
        obtain ⟨wr0, hwr0⟩ : ∃ b, b = (K == 0) := ⟨_, rfl⟩
        obtain ⟨h0, hh0⟩ : ∃ b, hasW K 0 = b := ⟨_, rfl⟩
        obtain ⟨q0, j1, r1, e0⟩ : ∃ q j r, nextS L h0 (1, wr0) = (q, j, r) := ⟨_, _, _, rfl⟩
        have hj1 := nextS_le e0 HLL.out.1
        have hz0 := nextS_size e0 HLS.out
        obtain ⟨n0, p0, hp0⟩ : ∃ n p, parseOf q0.data.toList = (n, p) := ⟨_, _, rfl⟩
        obtain ⟨kp0, hkp0⟩ := Ev.rounds (ref_parse q0)
        rw [hp0] at hkp0
        have HP0 : Hid (∀ W, Glob W → Calls Tryd.prog 33 #[.string q0] W fun e w' => e = .returned (.tuple #[.int .i64 n0, .int .i64 p0]) ∧ Below W.heap.size W w') := Lib.hid fun W hW => cambistref01_Parse.calls kp0 q0 n0 p0 W hW hkp0
        have hn0 : amtOf q0 = n0 := congrArg (·.1) hp0
        obtain ⟨h1, hh1⟩ : ∃ b, hasW K 1 = b := ⟨_, rfl⟩
        obtain ⟨q1, j2, r2, e1⟩ : ∃ q j r, nextS L h1 (j1, r1) = (q, j, r) := ⟨_, _, _, rfl⟩
        have hj2 := nextS_le e1 hj1
        have hz1 := nextS_size e1 HLS.out
        obtain ⟨n1, p1, hp1⟩ : ∃ n p, parseOf q1.data.toList = (n, p) := ⟨_, _, rfl⟩
        obtain ⟨kp1, hkp1⟩ := Ev.rounds (ref_parse q1)
        rw [hp1] at hkp1
        have HP1 : Hid (∀ W, Glob W → Calls Tryd.prog 33 #[.string q1] W fun e w' => e = .returned (.tuple #[.int .i64 n1, .int .i64 p1]) ∧ Below W.heap.size W w') := Lib.hid fun W hW => cambistref01_Parse.calls kp1 q1 n1 p1 W hW hkp1
        have hn1 : amtOf q1 = n1 := congrArg (·.1) hp1
        obtain ⟨h2, hh2⟩ : ∃ b, hasW K 2 = b := ⟨_, rfl⟩
        obtain ⟨q2, j3, r3, e2⟩ : ∃ q j r, nextS L h2 (j2, r2) = (q, j, r) := ⟨_, _, _, rfl⟩
        have hj3 := nextS_le e2 hj2
        have hz2 := nextS_size e2 HLS.out
        obtain ⟨n2, p2, hp2⟩ : ∃ n p, parseOf q2.data.toList = (n, p) := ⟨_, _, rfl⟩
        obtain ⟨kp2, hkp2⟩ := Ev.rounds (ref_parse q2)
        rw [hp2] at hkp2
        have HP2 : Hid (∀ W, Glob W → Calls Tryd.prog 33 #[.string q2] W fun e w' => e = .returned (.tuple #[.int .i64 n2, .int .i64 p2]) ∧ Below W.heap.size W w') := Lib.hid fun W hW => cambistref01_Parse.calls kp2 q2 n2 p2 W hW hkp2
        have hn2 : amtOf q2 = n2 := congrArg (·.1) hp2
        obtain ⟨h3, hh3⟩ : ∃ b, hasW K 3 = b := ⟨_, rfl⟩
        obtain ⟨q3, j4, r4, e3⟩ : ∃ q j r, nextS L h3 (j3, r3) = (q, j, r) := ⟨_, _, _, rfl⟩
        have hj4 := nextS_le e3 hj3
        have hz3 := nextS_size e3 HLS.out
        obtain ⟨n3, p3, hp3⟩ : ∃ n p, parseOf q3.data.toList = (n, p) := ⟨_, _, rfl⟩
        obtain ⟨kp3, hkp3⟩ := Ev.rounds (ref_parse q3)
        rw [hp3] at hkp3
        have HP3 : Hid (∀ W, Glob W → Calls Tryd.prog 33 #[.string q3] W fun e w' => e = .returned (.tuple #[.int .i64 n3, .int .i64 p3]) ∧ Below W.heap.size W w') := Lib.hid fun W hW => cambistref01_Parse.calls kp3 q3 n3 p3 W hW hkp3
        have hn3 : amtOf q3 = n3 := congrArg (·.1) hp3
        obtain ⟨h4, hh4⟩ : ∃ b, hasW K 4 = b := ⟨_, rfl⟩
        obtain ⟨q4, j5, r5, e4⟩ : ∃ q j r, nextS L h4 (j4, r4) = (q, j, r) := ⟨_, _, _, rfl⟩
        have hj5 := nextS_le e4 hj4
        have hz4 := nextS_size e4 HLS.out
        obtain ⟨n4, p4, hp4⟩ : ∃ n p, parseOf q4.data.toList = (n, p) := ⟨_, _, rfl⟩
        obtain ⟨kp4, hkp4⟩ := Ev.rounds (ref_parse q4)
        rw [hp4] at hkp4
        have HP4 : Hid (∀ W, Glob W → Calls Tryd.prog 33 #[.string q4] W fun e w' => e = .returned (.tuple #[.int .i64 n4, .int .i64 p4]) ∧ Below W.heap.size W w') := Lib.hid fun W hW => cambistref01_Parse.calls kp4 q4 n4 p4 W hW hkp4
        have hn4 : amtOf q4 = n4 := congrArg (·.1) hp4
        obtain ⟨h5, hh5⟩ : ∃ b, hasW K 5 = b := ⟨_, rfl⟩
        obtain ⟨q5, j6, r6, e5⟩ : ∃ q j r, nextS L h5 (j5, r5) = (q, j, r) := ⟨_, _, _, rfl⟩
        have hj6 := nextS_le e5 hj5
        have hz5 := nextS_size e5 HLS.out
        obtain ⟨n5, p5, hp5⟩ : ∃ n p, parseOf q5.data.toList = (n, p) := ⟨_, _, rfl⟩
        obtain ⟨kp5, hkp5⟩ := Ev.rounds (ref_parse q5)
        rw [hp5] at hkp5
        have HP5 : Hid (∀ W, Glob W → Calls Tryd.prog 33 #[.string q5] W fun e w' => e = .returned (.tuple #[.int .i64 n5, .int .i64 p5]) ∧ Below W.heap.size W w') := Lib.hid fun W hW => cambistref01_Parse.calls kp5 q5 n5 p5 W hW hkp5
        have hn5 : amtOf q5 = n5 := congrArg (·.1) hp5
        obtain ⟨h6, hh6⟩ : ∃ b, hasW K 6 = b := ⟨_, rfl⟩
        obtain ⟨q6, j7, r7, e6⟩ : ∃ q j r, nextS L h6 (j6, r6) = (q, j, r) := ⟨_, _, _, rfl⟩
        have hj7 := nextS_le e6 hj6
        have hz6 := nextS_size e6 HLS.out
        obtain ⟨n6, p6, hp6⟩ : ∃ n p, parseOf q6.data.toList = (n, p) := ⟨_, _, rfl⟩
        obtain ⟨kp6, hkp6⟩ := Ev.rounds (ref_parse q6)
        rw [hp6] at hkp6
        have HP6 : Hid (∀ W, Glob W → Calls Tryd.prog 33 #[.string q6] W fun e w' => e = .returned (.tuple #[.int .i64 n6, .int .i64 p6]) ∧ Below W.heap.size W w') := Lib.hid fun W hW => cambistref01_Parse.calls kp6 q6 n6 p6 W hW hkp6
        have hn6 : amtOf q6 = n6 := congrArg (·.1) hp6
        have hs0 : stTo L K 0 = (1, wr0) := by rw [hwr0]; rfl
        have hs1 : stTo L K 1 = (j1, r1) := by show (nextS L (hasW K 0) (stTo L K 0)).2 = _; rw [hs0, hh0, e0]
        have hq0 : wdAt L K 0 = q0 := by show (nextS L (hasW K 0) (stTo L K 0)).1 = _; rw [hs0, hh0, e0]
        have hs2 : stTo L K 2 = (j2, r2) := by show (nextS L (hasW K 1) (stTo L K 1)).2 = _; rw [hs1, hh1, e1]
        have hq1 : wdAt L K 1 = q1 := by show (nextS L (hasW K 1) (stTo L K 1)).1 = _; rw [hs1, hh1, e1]
        have hs3 : stTo L K 3 = (j3, r3) := by show (nextS L (hasW K 2) (stTo L K 2)).2 = _; rw [hs2, hh2, e2]
        have hq2 : wdAt L K 2 = q2 := by show (nextS L (hasW K 2) (stTo L K 2)).1 = _; rw [hs2, hh2, e2]
        have hs4 : stTo L K 4 = (j4, r4) := by show (nextS L (hasW K 3) (stTo L K 3)).2 = _; rw [hs3, hh3, e3]
        have hq3 : wdAt L K 3 = q3 := by show (nextS L (hasW K 3) (stTo L K 3)).1 = _; rw [hs3, hh3, e3]
        have hs5 : stTo L K 5 = (j5, r5) := by show (nextS L (hasW K 4) (stTo L K 4)).2 = _; rw [hs4, hh4, e4]
        have hq4 : wdAt L K 4 = q4 := by show (nextS L (hasW K 4) (stTo L K 4)).1 = _; rw [hs4, hh4, e4]
        have hs6 : stTo L K 6 = (j6, r6) := by show (nextS L (hasW K 5) (stTo L K 5)).2 = _; rw [hs5, hh5, e5]
        have hq5 : wdAt L K 5 = q5 := by show (nextS L (hasW K 5) (stTo L K 5)).1 = _; rw [hs5, hh5, e5]
        have hs7 : stTo L K 7 = (j7, r7) := by show (nextS L (hasW K 6) (stTo L K 6)).2 = _; rw [hs6, hh6, e6]
        have hq6 : wdAt L K 6 = q6 := by show (nextS L (hasW K 6) (stTo L K 6)).1 = _; rw [hs6, hh6, e6]
        obtain ⟨nu, hnu⟩ : ∃ n, IntKind.u64.wrap n6 = n := ⟨_, rfl⟩
        have hnu0 : 0 ≤ nu := by rw [← hnu, IntKind.wrap_u64]; omega
        have HCAND : Hid (candL L = ⟨K, q0, q1, q2, q3, n4, n5, nu⟩ ∧ wrongL L = r7) := Lib.hid (by
          constructor
          · unfold candL
            rw [← HKL.out, hq0, hq1, hq2, hq3, hq4, hq5, hq6, hn4, hn5, hn6, hnu]
          · unfold wrongL
            rw [← HKL.out, hs7])
        have HWR1 : Hid (r1 = true → r7 = true) := Lib.hid (fun h => by have := st_wrong (L := L) (K := K) (n := 1) (by rw [hs1]; exact h) 6; rwa [hs7] at this)
        have HWR2 : Hid (r2 = true → r7 = true) := Lib.hid (fun h => by have := st_wrong (L := L) (K := K) (n := 2) (by rw [hs2]; exact h) 5; rwa [hs7] at this)
        have HWR3 : Hid (r3 = true → r7 = true) := Lib.hid (fun h => by have := st_wrong (L := L) (K := K) (n := 3) (by rw [hs3]; exact h) 4; rwa [hs7] at this)
        have HWR4 : Hid (r4 = true → r7 = true) := Lib.hid (fun h => by have := st_wrong (L := L) (K := K) (n := 4) (by rw [hs4]; exact h) 3; rwa [hs7] at this)
        have HWR5 : Hid (r5 = true → r7 = true) := Lib.hid (fun h => by have := st_wrong (L := L) (K := K) (n := 5) (by rw [hs5]; exact h) 2; rwa [hs7] at this)
        have HWR6 : Hid (r6 = true → r7 = true) := Lib.hid (fun h => by have := st_wrong (L := L) (K := K) (n := 6) (by rw [hs6]; exact h) 1; rwa [hs7] at this)
        have HWR7 : Hid (r7 = true → r7 = true) := Lib.hid (fun h => by have := st_wrong (L := L) (K := K) (n := 7) (by rw [hs7]; exact h) 0; rwa [hs7] at this)
        have HWK : Hid (K = 0 → ∀ n, n ≤ 7 → (stTo L K n).2 = true) := Lib.hid (fun h n _ => by have := st_wrong (L := L) (K := K) (n := 0) (by rw [hs0, hwr0, h]; rfl) n; rwa [Nat.zero_add] at this)
        obtain ⟨jF, hjF⟩ : ∃ f : Nat → Nat, f = fun n => (stTo L K n).1 := ⟨_, rfl⟩
        obtain ⟨rF, hrF⟩ : ∃ f : Nat → Bool, f = fun n => (stTo L K n).2 := ⟨_, rfl⟩
        obtain ⟨csF, hcsF⟩ : ∃ f : Nat → Array Value, f = fun n => match n with | 0 => #[.int .i64 K, .string ⟨#[]⟩, .string ⟨#[]⟩, .string ⟨#[]⟩, .string ⟨#[]⟩, .int .i64 0, .int .i64 0, .int .u64 0] | 1 => #[.int .i64 K, .string q0, .string ⟨#[]⟩, .string ⟨#[]⟩, .string ⟨#[]⟩, .int .i64 0, .int .i64 0, .int .u64 0] | 2 => #[.int .i64 K, .string q0, .string q1, .string ⟨#[]⟩, .string ⟨#[]⟩, .int .i64 0, .int .i64 0, .int .u64 0] | 3 => #[.int .i64 K, .string q0, .string q1, .string q2, .string ⟨#[]⟩, .int .i64 0, .int .i64 0, .int .u64 0] | 4 => #[.int .i64 K, .string q0, .string q1, .string q2, .string q3, .int .i64 0, .int .i64 0, .int .u64 0] | 5 => #[.int .i64 K, .string q0, .string q1, .string q2, .string q3, .int .i64 n4, .int .i64 0, .int .u64 0] | 6 => #[.int .i64 K, .string q0, .string q1, .string q2, .string q3, .int .i64 n4, .int .i64 n5, .int .u64 0] | _ => #[.int .i64 K, .string q0, .string q1, .string q2, .string q3, .int .i64 n4, .int .i64 n5, .int .u64 nu] := ⟨_, rfl⟩
        have HJ0 : Hid (jF 0 = 1) := Lib.hid (by rw [hjF]; show (stTo L K 0).1 = _; rw [hs0])
        have HR_0 : Hid (rF 0 = wr0) := Lib.hid (by rw [hrF]; show (stTo L K 0).2 = _; rw [hs0])
        have HCS0 : Hid (csF 0 = #[.int .i64 K, .string ⟨#[]⟩, .string ⟨#[]⟩, .string ⟨#[]⟩, .string ⟨#[]⟩, .int .i64 0, .int .i64 0, .int .u64 0]) := Lib.hid ((congrFun hcsF 0).trans rfl)
        have HJ1 : Hid (jF 1 = j1) := Lib.hid (by rw [hjF]; show (stTo L K 1).1 = _; rw [hs1])
        have HR_1 : Hid (rF 1 = r1) := Lib.hid (by rw [hrF]; show (stTo L K 1).2 = _; rw [hs1])
        have HCS1 : Hid (csF 1 = #[.int .i64 K, .string q0, .string ⟨#[]⟩, .string ⟨#[]⟩, .string ⟨#[]⟩, .int .i64 0, .int .i64 0, .int .u64 0]) := Lib.hid ((congrFun hcsF 1).trans rfl)
        have HJ2 : Hid (jF 2 = j2) := Lib.hid (by rw [hjF]; show (stTo L K 2).1 = _; rw [hs2])
        have HR_2 : Hid (rF 2 = r2) := Lib.hid (by rw [hrF]; show (stTo L K 2).2 = _; rw [hs2])
        have HCS2 : Hid (csF 2 = #[.int .i64 K, .string q0, .string q1, .string ⟨#[]⟩, .string ⟨#[]⟩, .int .i64 0, .int .i64 0, .int .u64 0]) := Lib.hid ((congrFun hcsF 2).trans rfl)
        have HJ3 : Hid (jF 3 = j3) := Lib.hid (by rw [hjF]; show (stTo L K 3).1 = _; rw [hs3])
        have HR_3 : Hid (rF 3 = r3) := Lib.hid (by rw [hrF]; show (stTo L K 3).2 = _; rw [hs3])
        have HCS3 : Hid (csF 3 = #[.int .i64 K, .string q0, .string q1, .string q2, .string ⟨#[]⟩, .int .i64 0, .int .i64 0, .int .u64 0]) := Lib.hid ((congrFun hcsF 3).trans rfl)
        have HJ4 : Hid (jF 4 = j4) := Lib.hid (by rw [hjF]; show (stTo L K 4).1 = _; rw [hs4])
        have HR_4 : Hid (rF 4 = r4) := Lib.hid (by rw [hrF]; show (stTo L K 4).2 = _; rw [hs4])
        have HCS4 : Hid (csF 4 = #[.int .i64 K, .string q0, .string q1, .string q2, .string q3, .int .i64 0, .int .i64 0, .int .u64 0]) := Lib.hid ((congrFun hcsF 4).trans rfl)
        have HJ5 : Hid (jF 5 = j5) := Lib.hid (by rw [hjF]; show (stTo L K 5).1 = _; rw [hs5])
        have HR_5 : Hid (rF 5 = r5) := Lib.hid (by rw [hrF]; show (stTo L K 5).2 = _; rw [hs5])
        have HCS5 : Hid (csF 5 = #[.int .i64 K, .string q0, .string q1, .string q2, .string q3, .int .i64 n4, .int .i64 0, .int .u64 0]) := Lib.hid ((congrFun hcsF 5).trans rfl)
        have HJ6 : Hid (jF 6 = j6) := Lib.hid (by rw [hjF]; show (stTo L K 6).1 = _; rw [hs6])
        have HR_6 : Hid (rF 6 = r6) := Lib.hid (by rw [hrF]; show (stTo L K 6).2 = _; rw [hs6])
        have HCS6 : Hid (csF 6 = #[.int .i64 K, .string q0, .string q1, .string q2, .string q3, .int .i64 n4, .int .i64 n5, .int .u64 0]) := Lib.hid ((congrFun hcsF 6).trans rfl)
        have HJ7 : Hid (jF 7 = j7) := Lib.hid (by rw [hjF]; show (stTo L K 7).1 = _; rw [hs7])
        have HR_7 : Hid (rF 7 = r7) := Lib.hid (by rw [hrF]; show (stTo L K 7).2 = _; rw [hs7])
        have HCS7 : Hid (csF 7 = #[.int .i64 K, .string q0, .string q1, .string q2, .string q3, .int .i64 n4, .int .i64 n5, .int .u64 nu]) := Lib.hid ((congrFun hcsF 7).trans rfl)
        have HRK : Hid (K = 0 → ∀ n, n ≤ 7 → rF n = true) := Lib.hid (fun h n hn => by rw [hrF]; exact HWK.out h n hn)
        have HN0 := Lib.hid e0; have HJL1 := Lib.hid hj1
        have HN1 := Lib.hid e1; have HJL2 := Lib.hid hj2
        have HN2 := Lib.hid e2; have HJL3 := Lib.hid hj3
        have HN3 := Lib.hid e3; have HJL4 := Lib.hid hj4
        have HN4 := Lib.hid e4; have HJL5 := Lib.hid hj5
        have HN5 := Lib.hid e5; have HJL6 := Lib.hid hj6
        have HN6 := Lib.hid e6; have HJL7 := Lib.hid hj7
        have HNA4 := Lib.hid hn4
        have HNA5 := Lib.hid hn5
        have HNA6 := Lib.hid hn6
        have Hwr0 := Lib.hid hwr0
        have Hnu := Lib.hid hnu
        obtain ⟨ok, hok⟩ : ∃ b, okCmd K q0 q1 q2 q3 n4 n5 nu = b := ⟨_, rfl⟩
        obtain ⟨E, hE⟩ : ∃ x : ByteArray, (if ok then encB K q0 q1 q2 q3 n4 n5 nu else ⟨#[]⟩) = x := ⟨_, rfl⟩
        obtain ⟨er, her⟩ : ∃ x : Int, (if ok then 0 else 200) = x := ⟨_, rfl⟩
        have HE : Hid (∀ W, Glob W → Calls Tryd.prog 12 #[.agg #[.int .i64 K, .string q0, .string q1, .string q2, .string q3, .int .i64 n4, .int .i64 n5, .int .u64 nu]] W (EncRet W E er)) := Lib.hid fun W hW => by
          have := ref_Encode.calls K q0 q1 q2 q3 n4 n5 nu W hW ⟨hz0, hz1, hz2, hz3⟩ hnu0
          rw [hok, hE, her] at this
          exact this
        have Hok := Lib.hid hok; have HEE := Lib.hid hE; have Her := Lib.hid her
        have HHS : Hid (∀ W, Calls Tryd.prog 24 #[.int .i64 K] W fun e w' => e = .returned (.agg #[.bool h0, .bool h1, .bool h2, .bool h3, .bool h4, .bool h5, .bool h6]) ∧ Below W.heap.size W w') := Lib.hid fun W => (ref_has_calls K HK.out W).mono (by rintro e w' ⟨rfl, hb⟩; exact ⟨by rw [← hh0, ← hh1, ← hh2, ← hh3, ← hh4, ← hh5, ← hh6]; rfl, hb⟩)
        clear hh0 e0 hj1 hz0 hp0 hkp0 hn0 hs0 hq0 hh1 e1 hj2 hz1 hp1 hkp1 hn1 hs1 hq1 hh2 e2 hj3 hz2 hp2 hkp2 hn2 hs2 hq2 hh3 e3 hj4 hz3 hp3 hkp3 hn3 hs3 hq3 hh4 e4 hj5 hz4 hp4 hkp4 hn4 hs4 hq4 hh5 e5 hj6 hz5 hp5 hkp5 hn5 hs5 hq5 hh6 e6 hj7 hz6 hp6 hkp6 hn6 hs6 hq6 hs7 hjF hrF hcsF hwr0 hnu hnu0 hok hE her HWK HLS
        have d0 : wr.cell? ⟨bc, 0, none⟩ = some (.int .i64 K) := (blk_cell HRD.out.cmd 0).trans rfl
        go_upto_region 9 with (go_at_call 24; refine (HHS.out _).mono ?_; rintro e w5 ⟨rfl, hb⟩; have HRD5 := Lib.hid (HRD.out.step hb); clear hb)
        have HRE : Hid (RE w w.heap.size bc (.slice (some ⟨g, 0, none⟩) L.length cap) L #[.int .i64 K, .string ⟨#[]⟩, .string ⟨#[]⟩, .string ⟨#[]⟩, .string ⟨#[]⟩, .int .i64 0, .int .i64 0, .int .u64 0] w5.heap.size #[.bool h0, .bool h1, .bool h2, .bool h3, .bool h4, .bool h5, .bool h6] (w5.alloc (.cells #[.bool h0, .bool h1, .bool h2, .bool h3, .bool h4, .bool h5, .bool h6] 46))) := Lib.hid ⟨HRD5.out.step (below_alloc (Below.refl _ _) _), heap_alloc_new _ _⟩
        clear HRD HRD5 d0 HHS
        obtain ⟨gh, hgh⟩ : ∃ b, b = w5.heap.size := ⟨_, rfl⟩
        rw [← hgh] at HRE ⊢
        go_cut [8] (fun v8 wc => v8 = .int .i64 1 ∧ Hid (RE w w.heap.size bc (.slice (some ⟨g, 0, none⟩) L.length cap) L #[.int .i64 K, .string ⟨#[]⟩, .string ⟨#[]⟩, .string ⟨#[]⟩, .string ⟨#[]⟩, .int .i64 0, .int .i64 0, .int .u64 0] gh #[.bool h0, .bool h1, .bool h2, .bool h3, .bool h4, .bool h5, .bool h6] wc))
        case first =>
          go_wp2
          go_meet
          case rel => exact ⟨rfl, HRE⟩
        case rest =>
          clear HRE hgh
          obtain ⟨rfl, HRE⟩ := hcut
          go_wp2
          go_loopw [8, 9] (fun v8 v9 wr => ∃ i : Nat, i ≤ 7 ∧ v9 = .int .i64 i ∧ v8 = .int .i64 (jF i : Nat) ∧ Hid (rF i = true → i = 0 ∧ K = 0) ∧ Hid (RE w w.heap.size bc (.slice (some ⟨g, 0, none⟩) L.length cap) L (csF i) gh #[.bool h0, .bool h1, .bool h2, .bool h3, .bool h4, .bool h5, .bool h6] wr)) (fun _ v9 _ => 7 - (intOf v9).toNat)
          case atStart => exact ⟨0, Nat.zero_le _, rfl, by rw [HJ0.out]; rfl, Lib.hid (fun h => ⟨rfl, by rw [HR_0.out, Hwr0.out] at h; simpa using h⟩), by rw [HCS0.out]; exact HRE⟩
          case round =>
            clear HRE
            obtain ⟨i, hi, rfl, rfl, HRF, HRE⟩ := hrel
            have hic : i = 7 ∨ i = 0 ∨ i = 1 ∨ i = 2 ∨ i = 3 ∨ i = 4 ∨ i = 5 ∨ i = 6 := by omega
            clear hi
            rcases hic with rfl | rfl | rfl | rfl | rfl | rfl | rfl | rfl
            · rw [HJ7.out]
              rw [HCS7.out] at HRE
              have hr7 : r7 = false := by
                cases hb : r7 with
                | false => rfl
                | true => exact absurd (HRF.out (by rw [HR_7.out]; exact hb)).1 (by decide)
              have HR7 := Lib.hid hr7; clear hr7
              have d0 : wr.cell? ⟨bc, 0, none⟩ = some (.int .i64 K) := (blk_cell HRE.out.a.cmd 0).trans rfl
              have d1 : wr.cell? ⟨bc, 1, none⟩ = some (.string q0) := (blk_cell HRE.out.a.cmd 1).trans rfl
              have d2 : wr.cell? ⟨bc, 2, none⟩ = some (.string q1) := (blk_cell HRE.out.a.cmd 2).trans rfl
              have d3 : wr.cell? ⟨bc, 3, none⟩ = some (.string q2) := (blk_cell HRE.out.a.cmd 3).trans rfl
              have d4 : wr.cell? ⟨bc, 4, none⟩ = some (.string q3) := (blk_cell HRE.out.a.cmd 4).trans rfl
              have d5 : wr.cell? ⟨bc, 5, none⟩ = some (.int .i64 n4) := (blk_cell HRE.out.a.cmd 5).trans rfl
              have d6 : wr.cell? ⟨bc, 6, none⟩ = some (.int .i64 n5) := (blk_cell HRE.out.a.cmd 6).trans rfl
              have d7 : wr.cell? ⟨bc, 7, none⟩ = some (.int .u64 nu) := (blk_cell HRE.out.a.cmd 7).trans rfl
              have ho : ok = true ∧ er = 0 ∨ ok = false ∧ er = 200 := by cases ok; exact .inr ⟨rfl, Her.out.symm⟩; exact .inl ⟨rfl, Her.out.symm⟩
              rcases ho with ⟨hk1, hk2⟩ | ⟨hk1, hk2⟩
              · subst hk1 hk2
                obtain ⟨b, hb⟩ : ∃ b, (E.toList == s.toList) = b := ⟨_, rfl⟩
                have HBQ := Lib.hid hb
                have HEQ : Hid (encB K q0 q1 q2 q3 n4 n5 nu = E) := HEE
                cases b with
                | true =>
                  go_wp2_with (first | (go_at_call 12; refine (HE.out _ HRE.out.a.glob).mono ?_; rintro e w6 ⟨A, c, rfl, hc, hC, hb⟩; have HC := Lib.hid hC; have HREn := Lib.hid (HRE.out.step hb); clear hc hC hb HRE d0 d1 d2 d3 d4 d5 d6 d7; have HRE := HREn; clear HREn; have hcv1 := Kd.C_string (P := Tryd.prog) (c := c) Tryd.underlying26 Tryd.underlying5 Tryd.underlying9 HC.out; rw [str_bytes] at hcv1; have hcv2 := Kd.C_string (P := Tryd.prog) (c := c0) Tryd.underlying26 Tryd.underlying5 Tryd.underlying9 (Kd.C_below HR0.out HRE.out.a.below); rw [HSS.out] at hcv2; have b0 : w6.cell? ⟨bc, 0, none⟩ = some (.int .i64 K) := (blk_cell HRE.out.a.cmd 0).trans rfl; have b1 : w6.cell? ⟨bc, 1, none⟩ = some (.string q0) := (blk_cell HRE.out.a.cmd 1).trans rfl; have b2 : w6.cell? ⟨bc, 2, none⟩ = some (.string q1) := (blk_cell HRE.out.a.cmd 2).trans rfl; have b3 : w6.cell? ⟨bc, 3, none⟩ = some (.string q2) := (blk_cell HRE.out.a.cmd 3).trans rfl; have b4 : w6.cell? ⟨bc, 4, none⟩ = some (.string q3) := (blk_cell HRE.out.a.cmd 4).trans rfl; have b5 : w6.cell? ⟨bc, 5, none⟩ = some (.int .i64 n4) := (blk_cell HRE.out.a.cmd 5).trans rfl; have b6 : w6.cell? ⟨bc, 6, none⟩ = some (.int .i64 n5) := (blk_cell HRE.out.a.cmd 6).trans rfl; have b7 : w6.cell? ⟨bc, 7, none⟩ = some (.int .u64 nu) := (blk_cell HRE.out.a.cmd 7).trans rfl) | (refine wpList_store_row rfl 25 _ _ rfl w.heap.size _ rfl rfl 25 _ HRE.out.a.res (by kernel_rfl) rfl (by first | kernel_rfl | simp [Value.oneCell']) ?_))
                  refine bodyPost_ret (results_list rfl (by show (2 : Nat) ≠ 1; decide) (Vals.cell w.heap.size _ _ _ _ rfl (setRow_heap _ _ _ _ _ _ HRE.out.a.res) Tryd.underlying25 rfl (by kernel_rfl) (Vals.tmp Vals.nil))) rfl ?_
                  refine ⟨?_, below_setRow HRE.out.a.below (Nat.le_refl _) _⟩
                  rw [dec_yes (L := L) HL.out (by rw [HCAND.out.1, HCAND.out.2, HR7.out]; show (!false && okCmd K q0 q1 q2 q3 n4 n5 nu && ((encB K q0 q1 q2 q3 n4 n5 nu).toList == s.toList)) = true; rw [Hok.out, HEQ.out, HBQ.out]; rfl), HCAND.out.1]
                  rfl
                | false =>
                  go_wp2_with (first | (go_at_call 12; refine (HE.out _ HRE.out.a.glob).mono ?_; rintro e w6 ⟨A, c, rfl, hc, hC, hb⟩; have HC := Lib.hid hC; have HREn := Lib.hid (HRE.out.step hb); clear hc hC hb HRE d0 d1 d2 d3 d4 d5 d6 d7; have HRE := HREn; clear HREn; have hcv1 := Kd.C_string (P := Tryd.prog) (c := c) Tryd.underlying26 Tryd.underlying5 Tryd.underlying9 HC.out; rw [str_bytes] at hcv1; have hcv2 := Kd.C_string (P := Tryd.prog) (c := c0) Tryd.underlying26 Tryd.underlying5 Tryd.underlying9 (Kd.C_below HR0.out HRE.out.a.below); rw [HSS.out] at hcv2; have b0 : w6.cell? ⟨bc, 0, none⟩ = some (.int .i64 K) := (blk_cell HRE.out.a.cmd 0).trans rfl; have b1 : w6.cell? ⟨bc, 1, none⟩ = some (.string q0) := (blk_cell HRE.out.a.cmd 1).trans rfl; have b2 : w6.cell? ⟨bc, 2, none⟩ = some (.string q1) := (blk_cell HRE.out.a.cmd 2).trans rfl; have b3 : w6.cell? ⟨bc, 3, none⟩ = some (.string q2) := (blk_cell HRE.out.a.cmd 3).trans rfl; have b4 : w6.cell? ⟨bc, 4, none⟩ = some (.string q3) := (blk_cell HRE.out.a.cmd 4).trans rfl; have b5 : w6.cell? ⟨bc, 5, none⟩ = some (.int .i64 n4) := (blk_cell HRE.out.a.cmd 5).trans rfl; have b6 : w6.cell? ⟨bc, 6, none⟩ = some (.int .i64 n5) := (blk_cell HRE.out.a.cmd 6).trans rfl; have b7 : w6.cell? ⟨bc, 7, none⟩ = some (.int .u64 nu) := (blk_cell HRE.out.a.cmd 7).trans rfl) | (refine wpList_store_row rfl 25 _ _ rfl w.heap.size _ rfl rfl 25 _ HRE.out.a.res (by kernel_rfl) rfl (by first | kernel_rfl | simp [Value.oneCell']) ?_))
                  refine bodyPost_ret (results_list rfl (by show (2 : Nat) ≠ 1; decide) (Vals.cell w.heap.size _ _ _ _ rfl (setRow_heap _ _ _ _ _ _ HRE.out.a.res) Tryd.underlying25 rfl (by kernel_rfl) (Vals.tmp Vals.nil))) rfl ?_
                  refine ⟨?_, below_setRow HRE.out.a.below (Nat.le_refl _) _⟩
                  rw [dec_no (L := L) HL.out (by rw [HCAND.out.1, HCAND.out.2, HR7.out]; show (!false && okCmd K q0 q1 q2 q3 n4 n5 nu && ((encB K q0 q1 q2 q3 n4 n5 nu).toList == s.toList)) = false; rw [Hok.out, HEQ.out, HBQ.out]; rfl)]
                  rfl
              · subst hk1 hk2
                go_wp2_with (first | (go_at_call 12; refine (HE.out _ HRE.out.a.glob).mono ?_; rintro e w6 ⟨A, c, rfl, hc, hC, hb⟩; have HC := Lib.hid hC; have HREn := Lib.hid (HRE.out.step hb); clear hc hC hb HRE d0 d1 d2 d3 d4 d5 d6 d7; have HRE := HREn; clear HREn) | (refine wpList_store_row rfl 25 _ _ rfl w.heap.size _ rfl rfl 25 _ HRE.out.a.res (by kernel_rfl) rfl (by first | kernel_rfl | simp [Value.oneCell']) ?_))
                refine bodyPost_ret (results_list rfl (by show (2 : Nat) ≠ 1; decide) (Vals.cell w.heap.size _ _ _ _ rfl (setRow_heap _ _ _ _ _ _ HRE.out.a.res) Tryd.underlying25 rfl (by kernel_rfl) (Vals.tmp Vals.nil))) rfl ?_
                refine ⟨?_, below_setRow HRE.out.a.below (Nat.le_refl _) _⟩
                rw [dec_no (L := L) HL.out (by rw [HCAND.out.1, HCAND.out.2, HR7.out]; show (!false && okCmd K q0 q1 q2 q3 n4 n5 nu && ((encB K q0 q1 q2 q3 n4 n5 nu).toList == s.toList)) = false; rw [Hok.out]; rfl)]
                rfl
            · rw [HJ0.out]
              rw [HCS0.out] at HRE
              by_cases hK0 : K = 0
              · have HW0 : Hid (wrongL L = true) := Lib.hid (by rw [HCAND.out.2, ← HR_7.out]; exact HRK.out hK0 7 (by omega))
                have d0 : wr.cell? ⟨bc, 0, none⟩ = some (.int .i64 0) := (blk_cell HRE.out.a.cmd 0).trans (by rw [hK0]; rfl)
                have d1 : wr.cell? ⟨bc, 1, none⟩ = some (.string ⟨#[]⟩) := (blk_cell HRE.out.a.cmd 1).trans rfl
                have d2 : wr.cell? ⟨bc, 2, none⟩ = some (.string ⟨#[]⟩) := (blk_cell HRE.out.a.cmd 2).trans rfl
                have d3 : wr.cell? ⟨bc, 3, none⟩ = some (.string ⟨#[]⟩) := (blk_cell HRE.out.a.cmd 3).trans rfl
                have d4 : wr.cell? ⟨bc, 4, none⟩ = some (.string ⟨#[]⟩) := (blk_cell HRE.out.a.cmd 4).trans rfl
                have d5 : wr.cell? ⟨bc, 5, none⟩ = some (.int .i64 0) := (blk_cell HRE.out.a.cmd 5).trans rfl
                have d6 : wr.cell? ⟨bc, 6, none⟩ = some (.int .i64 0) := (blk_cell HRE.out.a.cmd 6).trans rfl
                have d7 : wr.cell? ⟨bc, 7, none⟩ = some (.int .u64 0) := (blk_cell HRE.out.a.cmd 7).trans rfl
                have HE0 : Hid (∀ W, Glob W → Calls Tryd.prog 12 #[.agg #[.int .i64 0, .string ⟨#[]⟩, .string ⟨#[]⟩, .string ⟨#[]⟩, .string ⟨#[]⟩, .int .i64 0, .int .i64 0, .int .u64 0]] W (EncRet W ⟨#[]⟩ 200)) := Lib.hid fun W hW => ref_Encode_no 0 ⟨#[]⟩ ⟨#[]⟩ ⟨#[]⟩ ⟨#[]⟩ 0 0 0 W hW (by decide) (by decide +kernel)
                clear hK0
                go_wp2_with (first | (go_at_call 12; refine (HE0.out _ HRE.out.a.glob).mono ?_; rintro e w6 ⟨A, c, rfl, hc, hC, hb⟩; have HC := Lib.hid hC; have HREn := Lib.hid (HRE.out.step hb); clear hc hC hb HRE d0 d1 d2 d3 d4 d5 d6 d7; have HRE := HREn; clear HREn) | (refine wpList_store_row rfl 25 _ _ rfl w.heap.size _ rfl rfl 25 _ HRE.out.a.res (by kernel_rfl) rfl (by first | kernel_rfl | simp [Value.oneCell']) ?_))
                refine bodyPost_ret (results_list rfl (by show (2 : Nat) ≠ 1; decide) (Vals.cell w.heap.size _ _ _ _ rfl (setRow_heap _ _ _ _ _ _ HRE.out.a.res) Tryd.underlying25 rfl (by kernel_rfl) (Vals.tmp Vals.nil))) rfl ?_
                refine ⟨?_, below_setRow HRE.out.a.below (Nat.le_refl _) _⟩
                rw [dec_no (L := L) HL.out (by rw [HW0.out]; rfl)]
                rfl
              · have hKp : decide ((0 : Int) < K) = true := decide_eq_true (by have := HK.out; omega)
                clear hK0
                have d0 : wr.cell? ⟨bc, 0, none⟩ = some (.int .i64 K) := (blk_cell HRE.out.a.cmd 0).trans rfl
                have dh : wr.cell? ⟨gh, 0, none⟩ = some (.bool h0) := (blk_cell HRE.out.has 0).trans rfl
                cases h0 with
                | false =>
                  obtain ⟨z1, z2, z3⟩ := nextS_false HN0.out
                  have HNX : Hid (csF 1 = #[.int .i64 K, .string ⟨#[]⟩, .string ⟨#[]⟩, .string ⟨#[]⟩, .string ⟨#[]⟩, .int .i64 0, .int .i64 0, .int .u64 0]) := Lib.hid (by rw [HCS1.out, z1])
                  have HZ2 : Hid (jF 1 = 1) := Lib.hid (by rw [HJ1.out, z2])
                  have HZ3 : Hid (rF 1 = true → 1 = 0 ∧ K = 0) := Lib.hid (fun h => by rw [HR_1.out, z3, ← HR_0.out] at h; have := HRF.out h; exact absurd this.2 (by have := of_decide_eq_true hKp; omega))
                  clear z1 z2 z3
                  go_wp2
                  go_roundw
                  case rel => exact ⟨1, by omega, by go_num, by rw [HZ2.out] <;> rfl, HZ3, by rw [HNX.out]; exact HRE⟩
                  case measure => simp [intOf]
                | true =>
                  rcases Nat.lt_or_ge (1 : Nat) L.length with hlt | hge
                  · obtain ⟨z1, z2, z3⟩ := nextS_true hlt HN0.out
                    have HQ : Hid (∀ {W : World} {cs : Array Value}, RE w w.heap.size bc (.slice (some ⟨g, 0, none⟩) L.length cap) L cs gh #[.bool true, .bool h1, .bool h2, .bool h3, .bool h4, .bool h5, .bool h6] W → W.cell? ⟨g, 1, none⟩ = some (.string q0)) := Lib.hid (fun h => by rw [z1]; exact h.a.word hlt)
                    have dw := HQ.out HRE.out
                    have hj1 : decide ((L.length : Int) ≤ (((1 : Nat) : Nat) : Int)) = false := decide_eq_false (by omega)
                    have hj2 : decide (L.length ≤ (1 : Nat)) = false := decide_eq_false (by omega)
                    have hj3 : (((1 : Nat) : Nat) : Int) < (L.length : Int) := by omega
                    have HZ2 : Hid (jF 1 = 1 + 1) := Lib.hid (by rw [HJ1.out, z2])
                    have HZ3 : Hid (rF 1 = true → 1 = 0 ∧ K = 0) := Lib.hid (fun h => by rw [HR_1.out, z3, ← HR_0.out] at h; have := HRF.out h; exact absurd this.2 (by have := of_decide_eq_true hKp; omega))
                    clear z1 z2 z3 hlt
                    go_wp2_with (go_at_call 33; refine (HP0.out _ HRE.out.a.glob).mono ?_; rintro e w6 ⟨rfl, hb⟩; have HRE6 := Lib.hid (HRE.out.step hb); clear hb HRE d0 dh dw; have dw := HQ.out HRE6.out; have da : w6.cell? ⟨bc, 1, none⟩ = some (.string ⟨#[]⟩) := (blk_cell HRE6.out.a.cmd 1).trans rfl; have db : w6.frozen? ⟨bc, 1, none⟩ = false := blk_frozen HRE6.out.a.cmd 1)
                    go_roundw
                    case rel => exact ⟨1, by omega, by go_num, by rw [HZ2.out]; have hLb_ := HLL.out.2; first | go_num | (refine congrArg (Value.int .i64) ?_; unfold wrap64; omega), HZ3, by rw [HCS1.out]; exact Lib.hid (HRE6.out.setC 1 (.string q0) rfl)⟩
                    case measure => simp [intOf]
                  · have HW0 : Hid (wrongL L = true) := Lib.hid (by rw [HCAND.out.2]; exact HWR1.out (nextS_out hge HN0.out))
                    have hj1 : decide ((L.length : Int) ≤ (((1 : Nat) : Nat) : Int)) = true := decide_eq_true (by omega)
                    have hj2 : decide (L.length ≤ (1 : Nat)) = true := decide_eq_true hge
                    have hj3 : (L.length : Int) ≤ 1 := by omega
                    have hj4 : decide ((L.length : Int) ≤ 1) = true := decide_eq_true hj3
                    clear hge
                    go_wp2_with (first | (refine wpList_store_row rfl 25 _ _ rfl w.heap.size _ rfl rfl 25 _ HRE.out.a.res (by kernel_rfl) rfl (by first | kernel_rfl | simp [Value.oneCell']) ?_))
                    refine bodyPost_ret (results_list rfl (by show (2 : Nat) ≠ 1; decide) (Vals.cell w.heap.size _ _ _ _ rfl (setRow_heap _ _ _ _ _ _ HRE.out.a.res) Tryd.underlying25 rfl (by kernel_rfl) (Vals.tmp Vals.nil))) rfl ?_
                    refine ⟨?_, below_setRow HRE.out.a.below (Nat.le_refl _) _⟩
                    rw [dec_no (L := L) HL.out (by rw [HW0.out]; rfl)]
                    rfl
            · rw [HJ1.out]
              rw [HCS1.out] at HRE
              have hK0 : K ≠ 0 := fun h => absurd (HRF.out (HRK.out h 1 (by omega))).1 (by decide)
              have hKp : decide ((0 : Int) < K) = true := decide_eq_true (by have := HK.out; omega)
              clear hK0
              have d0 : wr.cell? ⟨bc, 0, none⟩ = some (.int .i64 K) := (blk_cell HRE.out.a.cmd 0).trans rfl
              have dh : wr.cell? ⟨gh, 1, none⟩ = some (.bool h1) := (blk_cell HRE.out.has 1).trans rfl
              cases h1 with
              | false =>
                obtain ⟨z1, z2, z3⟩ := nextS_false HN1.out
                have HNX : Hid (csF 2 = #[.int .i64 K, .string q0, .string ⟨#[]⟩, .string ⟨#[]⟩, .string ⟨#[]⟩, .int .i64 0, .int .i64 0, .int .u64 0]) := Lib.hid (by rw [HCS2.out, z1])
                have HZ2 : Hid (jF 2 = j1) := Lib.hid (by rw [HJ2.out, z2])
                have HZ3 : Hid (rF 2 = true → 2 = 0 ∧ K = 0) := Lib.hid (fun h => by rw [HR_2.out, z3, ← HR_1.out] at h; have := HRF.out h; omega)
                clear z1 z2 z3
                go_wp2
                go_roundw
                case rel => exact ⟨2, by omega, by go_num, by rw [HZ2.out] <;> rfl, HZ3, by rw [HNX.out]; exact HRE⟩
                case measure => simp [intOf]
              | true =>
                rcases Nat.lt_or_ge (j1 : Nat) L.length with hlt | hge
                · obtain ⟨z1, z2, z3⟩ := nextS_true hlt HN1.out
                  have HQ : Hid (∀ {W : World} {cs : Array Value}, RE w w.heap.size bc (.slice (some ⟨g, 0, none⟩) L.length cap) L cs gh #[.bool h0, .bool true, .bool h2, .bool h3, .bool h4, .bool h5, .bool h6] W → W.cell? ⟨g, j1, none⟩ = some (.string q1)) := Lib.hid (fun h => by rw [z1]; exact h.a.word hlt)
                  have dw := HQ.out HRE.out
                  have hj1 : decide ((L.length : Int) ≤ (((j1 : Nat) : Nat) : Int)) = false := decide_eq_false (by omega)
                  have hj2 : decide (L.length ≤ (j1 : Nat)) = false := decide_eq_false (by omega)
                  have hj3 : (((j1 : Nat) : Nat) : Int) < (L.length : Int) := by omega
                  have HZ2 : Hid (jF 2 = j1 + 1) := Lib.hid (by rw [HJ2.out, z2])
                  have HZ3 : Hid (rF 2 = true → 2 = 0 ∧ K = 0) := Lib.hid (fun h => by rw [HR_2.out, z3, ← HR_1.out] at h; have := HRF.out h; omega)
                  clear z1 z2 z3 hlt
                  go_wp2_with (go_at_call 33; refine (HP1.out _ HRE.out.a.glob).mono ?_; rintro e w6 ⟨rfl, hb⟩; have HRE6 := Lib.hid (HRE.out.step hb); clear hb HRE d0 dh dw; have dw := HQ.out HRE6.out; have da : w6.cell? ⟨bc, 2, none⟩ = some (.string ⟨#[]⟩) := (blk_cell HRE6.out.a.cmd 2).trans rfl; have db : w6.frozen? ⟨bc, 2, none⟩ = false := blk_frozen HRE6.out.a.cmd 2)
                  go_roundw
                  case rel => exact ⟨2, by omega, by go_num, by rw [HZ2.out]; have hLb_ := HLL.out.2; first | go_num | (refine congrArg (Value.int .i64) ?_; unfold wrap64; omega), HZ3, by rw [HCS2.out]; exact Lib.hid (HRE6.out.setC 2 (.string q1) rfl)⟩
                  case measure => simp [intOf]
                · have HW0 : Hid (wrongL L = true) := Lib.hid (by rw [HCAND.out.2]; exact HWR2.out (nextS_out hge HN1.out))
                  have hj1 : decide ((L.length : Int) ≤ (((j1 : Nat) : Nat) : Int)) = true := decide_eq_true (by omega)
                  have hj2 : decide (L.length ≤ (j1 : Nat)) = true := decide_eq_true hge
                  clear hge
                  go_wp2_with (first | (refine wpList_store_row rfl 25 _ _ rfl w.heap.size _ rfl rfl 25 _ HRE.out.a.res (by kernel_rfl) rfl (by first | kernel_rfl | simp [Value.oneCell']) ?_))
                  refine bodyPost_ret (results_list rfl (by show (2 : Nat) ≠ 1; decide) (Vals.cell w.heap.size _ _ _ _ rfl (setRow_heap _ _ _ _ _ _ HRE.out.a.res) Tryd.underlying25 rfl (by kernel_rfl) (Vals.tmp Vals.nil))) rfl ?_
                  refine ⟨?_, below_setRow HRE.out.a.below (Nat.le_refl _) _⟩
                  rw [dec_no (L := L) HL.out (by rw [HW0.out]; rfl)]
                  rfl
            · rw [HJ2.out]
              rw [HCS2.out] at HRE
              have hK0 : K ≠ 0 := fun h => absurd (HRF.out (HRK.out h 2 (by omega))).1 (by decide)
              have hKp : decide ((0 : Int) < K) = true := decide_eq_true (by have := HK.out; omega)
              clear hK0
              have d0 : wr.cell? ⟨bc, 0, none⟩ = some (.int .i64 K) := (blk_cell HRE.out.a.cmd 0).trans rfl
              have dh : wr.cell? ⟨gh, 2, none⟩ = some (.bool h2) := (blk_cell HRE.out.has 2).trans rfl
              cases h2 with
              | false =>
                obtain ⟨z1, z2, z3⟩ := nextS_false HN2.out
                have HNX : Hid (csF 3 = #[.int .i64 K, .string q0, .string q1, .string ⟨#[]⟩, .string ⟨#[]⟩, .int .i64 0, .int .i64 0, .int .u64 0]) := Lib.hid (by rw [HCS3.out, z1])
                have HZ2 : Hid (jF 3 = j2) := Lib.hid (by rw [HJ3.out, z2])
                have HZ3 : Hid (rF 3 = true → 3 = 0 ∧ K = 0) := Lib.hid (fun h => by rw [HR_3.out, z3, ← HR_2.out] at h; have := HRF.out h; omega)
                clear z1 z2 z3
                go_wp2
                go_roundw
                case rel => exact ⟨3, by omega, by go_num, by rw [HZ2.out] <;> rfl, HZ3, by rw [HNX.out]; exact HRE⟩
                case measure => simp [intOf]
              | true =>
                rcases Nat.lt_or_ge (j2 : Nat) L.length with hlt | hge
                · obtain ⟨z1, z2, z3⟩ := nextS_true hlt HN2.out
                  have HQ : Hid (∀ {W : World} {cs : Array Value}, RE w w.heap.size bc (.slice (some ⟨g, 0, none⟩) L.length cap) L cs gh #[.bool h0, .bool h1, .bool true, .bool h3, .bool h4, .bool h5, .bool h6] W → W.cell? ⟨g, j2, none⟩ = some (.string q2)) := Lib.hid (fun h => by rw [z1]; exact h.a.word hlt)
                  have dw := HQ.out HRE.out
                  have hj1 : decide ((L.length : Int) ≤ (((j2 : Nat) : Nat) : Int)) = false := decide_eq_false (by omega)
                  have hj2 : decide (L.length ≤ (j2 : Nat)) = false := decide_eq_false (by omega)
                  have hj3 : (((j2 : Nat) : Nat) : Int) < (L.length : Int) := by omega
                  have HZ2 : Hid (jF 3 = j2 + 1) := Lib.hid (by rw [HJ3.out, z2])
                  have HZ3 : Hid (rF 3 = true → 3 = 0 ∧ K = 0) := Lib.hid (fun h => by rw [HR_3.out, z3, ← HR_2.out] at h; have := HRF.out h; omega)
                  clear z1 z2 z3 hlt
                  go_wp2_with (go_at_call 33; refine (HP2.out _ HRE.out.a.glob).mono ?_; rintro e w6 ⟨rfl, hb⟩; have HRE6 := Lib.hid (HRE.out.step hb); clear hb HRE d0 dh dw; have dw := HQ.out HRE6.out; have da : w6.cell? ⟨bc, 3, none⟩ = some (.string ⟨#[]⟩) := (blk_cell HRE6.out.a.cmd 3).trans rfl; have db : w6.frozen? ⟨bc, 3, none⟩ = false := blk_frozen HRE6.out.a.cmd 3)
                  go_roundw
                  case rel => exact ⟨3, by omega, by go_num, by rw [HZ2.out]; have hLb_ := HLL.out.2; first | go_num | (refine congrArg (Value.int .i64) ?_; unfold wrap64; omega), HZ3, by rw [HCS3.out]; exact Lib.hid (HRE6.out.setC 3 (.string q2) rfl)⟩
                  case measure => simp [intOf]
                · have HW0 : Hid (wrongL L = true) := Lib.hid (by rw [HCAND.out.2]; exact HWR3.out (nextS_out hge HN2.out))
                  have hj1 : decide ((L.length : Int) ≤ (((j2 : Nat) : Nat) : Int)) = true := decide_eq_true (by omega)
                  have hj2 : decide (L.length ≤ (j2 : Nat)) = true := decide_eq_true hge
                  clear hge
                  go_wp2_with (first | (refine wpList_store_row rfl 25 _ _ rfl w.heap.size _ rfl rfl 25 _ HRE.out.a.res (by kernel_rfl) rfl (by first | kernel_rfl | simp [Value.oneCell']) ?_))
                  refine bodyPost_ret (results_list rfl (by show (2 : Nat) ≠ 1; decide) (Vals.cell w.heap.size _ _ _ _ rfl (setRow_heap _ _ _ _ _ _ HRE.out.a.res) Tryd.underlying25 rfl (by kernel_rfl) (Vals.tmp Vals.nil))) rfl ?_
                  refine ⟨?_, below_setRow HRE.out.a.below (Nat.le_refl _) _⟩
                  rw [dec_no (L := L) HL.out (by rw [HW0.out]; rfl)]
                  rfl
            · rw [HJ3.out]
              rw [HCS3.out] at HRE
              have hK0 : K ≠ 0 := fun h => absurd (HRF.out (HRK.out h 3 (by omega))).1 (by decide)
              have hKp : decide ((0 : Int) < K) = true := decide_eq_true (by have := HK.out; omega)
              clear hK0
              have d0 : wr.cell? ⟨bc, 0, none⟩ = some (.int .i64 K) := (blk_cell HRE.out.a.cmd 0).trans rfl
              have dh : wr.cell? ⟨gh, 3, none⟩ = some (.bool h3) := (blk_cell HRE.out.has 3).trans rfl
              cases h3 with
              | false =>
                obtain ⟨z1, z2, z3⟩ := nextS_false HN3.out
                have HNX : Hid (csF 4 = #[.int .i64 K, .string q0, .string q1, .string q2, .string ⟨#[]⟩, .int .i64 0, .int .i64 0, .int .u64 0]) := Lib.hid (by rw [HCS4.out, z1])
                have HZ2 : Hid (jF 4 = j3) := Lib.hid (by rw [HJ4.out, z2])
                have HZ3 : Hid (rF 4 = true → 4 = 0 ∧ K = 0) := Lib.hid (fun h => by rw [HR_4.out, z3, ← HR_3.out] at h; have := HRF.out h; omega)
                clear z1 z2 z3
                go_wp2
                go_roundw
                case rel => exact ⟨4, by omega, by go_num, by rw [HZ2.out] <;> rfl, HZ3, by rw [HNX.out]; exact HRE⟩
                case measure => simp [intOf]
              | true =>
                rcases Nat.lt_or_ge (j3 : Nat) L.length with hlt | hge
                · obtain ⟨z1, z2, z3⟩ := nextS_true hlt HN3.out
                  have HQ : Hid (∀ {W : World} {cs : Array Value}, RE w w.heap.size bc (.slice (some ⟨g, 0, none⟩) L.length cap) L cs gh #[.bool h0, .bool h1, .bool h2, .bool true, .bool h4, .bool h5, .bool h6] W → W.cell? ⟨g, j3, none⟩ = some (.string q3)) := Lib.hid (fun h => by rw [z1]; exact h.a.word hlt)
                  have dw := HQ.out HRE.out
                  have hj1 : decide ((L.length : Int) ≤ (((j3 : Nat) : Nat) : Int)) = false := decide_eq_false (by omega)
                  have hj2 : decide (L.length ≤ (j3 : Nat)) = false := decide_eq_false (by omega)
                  have hj3 : (((j3 : Nat) : Nat) : Int) < (L.length : Int) := by omega
                  have HZ2 : Hid (jF 4 = j3 + 1) := Lib.hid (by rw [HJ4.out, z2])
                  have HZ3 : Hid (rF 4 = true → 4 = 0 ∧ K = 0) := Lib.hid (fun h => by rw [HR_4.out, z3, ← HR_3.out] at h; have := HRF.out h; omega)
                  clear z1 z2 z3 hlt
                  go_wp2_with (go_at_call 33; refine (HP3.out _ HRE.out.a.glob).mono ?_; rintro e w6 ⟨rfl, hb⟩; have HRE6 := Lib.hid (HRE.out.step hb); clear hb HRE d0 dh dw; have dw := HQ.out HRE6.out; have da : w6.cell? ⟨bc, 4, none⟩ = some (.string ⟨#[]⟩) := (blk_cell HRE6.out.a.cmd 4).trans rfl; have db : w6.frozen? ⟨bc, 4, none⟩ = false := blk_frozen HRE6.out.a.cmd 4)
                  go_roundw
                  case rel => exact ⟨4, by omega, by go_num, by rw [HZ2.out]; have hLb_ := HLL.out.2; first | go_num | (refine congrArg (Value.int .i64) ?_; unfold wrap64; omega), HZ3, by rw [HCS4.out]; exact Lib.hid (HRE6.out.setC 4 (.string q3) rfl)⟩
                  case measure => simp [intOf]
                · have HW0 : Hid (wrongL L = true) := Lib.hid (by rw [HCAND.out.2]; exact HWR4.out (nextS_out hge HN3.out))
                  have hj1 : decide ((L.length : Int) ≤ (((j3 : Nat) : Nat) : Int)) = true := decide_eq_true (by omega)
                  have hj2 : decide (L.length ≤ (j3 : Nat)) = true := decide_eq_true hge
                  clear hge
                  go_wp2_with (first | (refine wpList_store_row rfl 25 _ _ rfl w.heap.size _ rfl rfl 25 _ HRE.out.a.res (by kernel_rfl) rfl (by first | kernel_rfl | simp [Value.oneCell']) ?_))
                  refine bodyPost_ret (results_list rfl (by show (2 : Nat) ≠ 1; decide) (Vals.cell w.heap.size _ _ _ _ rfl (setRow_heap _ _ _ _ _ _ HRE.out.a.res) Tryd.underlying25 rfl (by kernel_rfl) (Vals.tmp Vals.nil))) rfl ?_
                  refine ⟨?_, below_setRow HRE.out.a.below (Nat.le_refl _) _⟩
                  rw [dec_no (L := L) HL.out (by rw [HW0.out]; rfl)]
                  rfl
            · rw [HJ4.out]
              rw [HCS4.out] at HRE
              have hK0 : K ≠ 0 := fun h => absurd (HRF.out (HRK.out h 4 (by omega))).1 (by decide)
              have hKp : decide ((0 : Int) < K) = true := decide_eq_true (by have := HK.out; omega)
              clear hK0
              have d0 : wr.cell? ⟨bc, 0, none⟩ = some (.int .i64 K) := (blk_cell HRE.out.a.cmd 0).trans rfl
              have dh : wr.cell? ⟨gh, 4, none⟩ = some (.bool h4) := (blk_cell HRE.out.has 4).trans rfl
              cases h4 with
              | false =>
                obtain ⟨z1, z2, z3⟩ := nextS_false HN4.out
                have HNX : Hid (csF 5 = #[.int .i64 K, .string q0, .string q1, .string q2, .string q3, .int .i64 0, .int .i64 0, .int .u64 0]) := Lib.hid (by rw [HCS5.out, show n4 = 0 from by rw [← HNA4.out, z1]; exact amt_empty])
                have HZ2 : Hid (jF 5 = j4) := Lib.hid (by rw [HJ5.out, z2])
                have HZ3 : Hid (rF 5 = true → 5 = 0 ∧ K = 0) := Lib.hid (fun h => by rw [HR_5.out, z3, ← HR_4.out] at h; have := HRF.out h; omega)
                clear z1 z2 z3
                go_wp2
                go_roundw
                case rel => exact ⟨5, by omega, by go_num, by rw [HZ2.out] <;> rfl, HZ3, by rw [HNX.out]; exact HRE⟩
                case measure => simp [intOf]
              | true =>
                rcases Nat.lt_or_ge (j4 : Nat) L.length with hlt | hge
                · obtain ⟨z1, z2, z3⟩ := nextS_true hlt HN4.out
                  have HQ : Hid (∀ {W : World} {cs : Array Value}, RE w w.heap.size bc (.slice (some ⟨g, 0, none⟩) L.length cap) L cs gh #[.bool h0, .bool h1, .bool h2, .bool h3, .bool true, .bool h5, .bool h6] W → W.cell? ⟨g, j4, none⟩ = some (.string q4)) := Lib.hid (fun h => by rw [z1]; exact h.a.word hlt)
                  have dw := HQ.out HRE.out
                  have hj1 : decide ((L.length : Int) ≤ (((j4 : Nat) : Nat) : Int)) = false := decide_eq_false (by omega)
                  have hj2 : decide (L.length ≤ (j4 : Nat)) = false := decide_eq_false (by omega)
                  have hj3 : (((j4 : Nat) : Nat) : Int) < (L.length : Int) := by omega
                  have HZ2 : Hid (jF 5 = j4 + 1) := Lib.hid (by rw [HJ5.out, z2])
                  have HZ3 : Hid (rF 5 = true → 5 = 0 ∧ K = 0) := Lib.hid (fun h => by rw [HR_5.out, z3, ← HR_4.out] at h; have := HRF.out h; omega)
                  clear z1 z2 z3 hlt
                  go_wp2_with (go_at_call 33; refine (HP4.out _ HRE.out.a.glob).mono ?_; rintro e w6 ⟨rfl, hb⟩; have HRE6 := Lib.hid (HRE.out.step hb); clear hb HRE d0 dh dw; have dw := HQ.out HRE6.out; have da : w6.cell? ⟨bc, 5, none⟩ = some (.int .i64 0) := (blk_cell HRE6.out.a.cmd 5).trans rfl; have db : w6.frozen? ⟨bc, 5, none⟩ = false := blk_frozen HRE6.out.a.cmd 5)
                  go_roundw
                  case rel => exact ⟨5, by omega, by go_num, by rw [HZ2.out]; have hLb_ := HLL.out.2; first | go_num | (refine congrArg (Value.int .i64) ?_; unfold wrap64; omega), HZ3, by rw [HCS5.out]; exact Lib.hid (HRE6.out.setC 5 (.int .i64 n4) rfl)⟩
                  case measure => simp [intOf]
                · have HW0 : Hid (wrongL L = true) := Lib.hid (by rw [HCAND.out.2]; exact HWR5.out (nextS_out hge HN4.out))
                  have hj1 : decide ((L.length : Int) ≤ (((j4 : Nat) : Nat) : Int)) = true := decide_eq_true (by omega)
                  have hj2 : decide (L.length ≤ (j4 : Nat)) = true := decide_eq_true hge
                  clear hge
                  go_wp2_with (first | (refine wpList_store_row rfl 25 _ _ rfl w.heap.size _ rfl rfl 25 _ HRE.out.a.res (by kernel_rfl) rfl (by first | kernel_rfl | simp [Value.oneCell']) ?_))
                  refine bodyPost_ret (results_list rfl (by show (2 : Nat) ≠ 1; decide) (Vals.cell w.heap.size _ _ _ _ rfl (setRow_heap _ _ _ _ _ _ HRE.out.a.res) Tryd.underlying25 rfl (by kernel_rfl) (Vals.tmp Vals.nil))) rfl ?_
                  refine ⟨?_, below_setRow HRE.out.a.below (Nat.le_refl _) _⟩
                  rw [dec_no (L := L) HL.out (by rw [HW0.out]; rfl)]
                  rfl
            · rw [HJ5.out]
              rw [HCS5.out] at HRE
              have hK0 : K ≠ 0 := fun h => absurd (HRF.out (HRK.out h 5 (by omega))).1 (by decide)
              have hKp : decide ((0 : Int) < K) = true := decide_eq_true (by have := HK.out; omega)
              clear hK0
              have d0 : wr.cell? ⟨bc, 0, none⟩ = some (.int .i64 K) := (blk_cell HRE.out.a.cmd 0).trans rfl
              have dh : wr.cell? ⟨gh, 5, none⟩ = some (.bool h5) := (blk_cell HRE.out.has 5).trans rfl
              cases h5 with
              | false =>
                obtain ⟨z1, z2, z3⟩ := nextS_false HN5.out
                have HNX : Hid (csF 6 = #[.int .i64 K, .string q0, .string q1, .string q2, .string q3, .int .i64 n4, .int .i64 0, .int .u64 0]) := Lib.hid (by rw [HCS6.out, show n5 = 0 from by rw [← HNA5.out, z1]; exact amt_empty])
                have HZ2 : Hid (jF 6 = j5) := Lib.hid (by rw [HJ6.out, z2])
                have HZ3 : Hid (rF 6 = true → 6 = 0 ∧ K = 0) := Lib.hid (fun h => by rw [HR_6.out, z3, ← HR_5.out] at h; have := HRF.out h; omega)
                clear z1 z2 z3
                go_wp2
                go_roundw
                case rel => exact ⟨6, by omega, by go_num, by rw [HZ2.out] <;> rfl, HZ3, by rw [HNX.out]; exact HRE⟩
                case measure => simp [intOf]
              | true =>
                rcases Nat.lt_or_ge (j5 : Nat) L.length with hlt | hge
                · obtain ⟨z1, z2, z3⟩ := nextS_true hlt HN5.out
                  have HQ : Hid (∀ {W : World} {cs : Array Value}, RE w w.heap.size bc (.slice (some ⟨g, 0, none⟩) L.length cap) L cs gh #[.bool h0, .bool h1, .bool h2, .bool h3, .bool h4, .bool true, .bool h6] W → W.cell? ⟨g, j5, none⟩ = some (.string q5)) := Lib.hid (fun h => by rw [z1]; exact h.a.word hlt)
                  have dw := HQ.out HRE.out
                  have hj1 : decide ((L.length : Int) ≤ (((j5 : Nat) : Nat) : Int)) = false := decide_eq_false (by omega)
                  have hj2 : decide (L.length ≤ (j5 : Nat)) = false := decide_eq_false (by omega)
                  have hj3 : (((j5 : Nat) : Nat) : Int) < (L.length : Int) := by omega
                  have HZ2 : Hid (jF 6 = j5 + 1) := Lib.hid (by rw [HJ6.out, z2])
                  have HZ3 : Hid (rF 6 = true → 6 = 0 ∧ K = 0) := Lib.hid (fun h => by rw [HR_6.out, z3, ← HR_5.out] at h; have := HRF.out h; omega)
                  clear z1 z2 z3 hlt
                  go_wp2_with (go_at_call 33; refine (HP5.out _ HRE.out.a.glob).mono ?_; rintro e w6 ⟨rfl, hb⟩; have HRE6 := Lib.hid (HRE.out.step hb); clear hb HRE d0 dh dw; have dw := HQ.out HRE6.out; have da : w6.cell? ⟨bc, 6, none⟩ = some (.int .i64 0) := (blk_cell HRE6.out.a.cmd 6).trans rfl; have db : w6.frozen? ⟨bc, 6, none⟩ = false := blk_frozen HRE6.out.a.cmd 6)
                  go_roundw
                  case rel => exact ⟨6, by omega, by go_num, by rw [HZ2.out]; have hLb_ := HLL.out.2; first | go_num | (refine congrArg (Value.int .i64) ?_; unfold wrap64; omega), HZ3, by rw [HCS6.out]; exact Lib.hid (HRE6.out.setC 6 (.int .i64 n5) rfl)⟩
                  case measure => simp [intOf]
                · have HW0 : Hid (wrongL L = true) := Lib.hid (by rw [HCAND.out.2]; exact HWR6.out (nextS_out hge HN5.out))
                  have hj1 : decide ((L.length : Int) ≤ (((j5 : Nat) : Nat) : Int)) = true := decide_eq_true (by omega)
                  have hj2 : decide (L.length ≤ (j5 : Nat)) = true := decide_eq_true hge
                  clear hge
                  go_wp2_with (first | (refine wpList_store_row rfl 25 _ _ rfl w.heap.size _ rfl rfl 25 _ HRE.out.a.res (by kernel_rfl) rfl (by first | kernel_rfl | simp [Value.oneCell']) ?_))
                  refine bodyPost_ret (results_list rfl (by show (2 : Nat) ≠ 1; decide) (Vals.cell w.heap.size _ _ _ _ rfl (setRow_heap _ _ _ _ _ _ HRE.out.a.res) Tryd.underlying25 rfl (by kernel_rfl) (Vals.tmp Vals.nil))) rfl ?_
                  refine ⟨?_, below_setRow HRE.out.a.below (Nat.le_refl _) _⟩
                  rw [dec_no (L := L) HL.out (by rw [HW0.out]; rfl)]
                  rfl
            · rw [HJ6.out]
              rw [HCS6.out] at HRE
              have hK0 : K ≠ 0 := fun h => absurd (HRF.out (HRK.out h 6 (by omega))).1 (by decide)
              have hKp : decide ((0 : Int) < K) = true := decide_eq_true (by have := HK.out; omega)
              clear hK0
              have d0 : wr.cell? ⟨bc, 0, none⟩ = some (.int .i64 K) := (blk_cell HRE.out.a.cmd 0).trans rfl
              have dh : wr.cell? ⟨gh, 6, none⟩ = some (.bool h6) := (blk_cell HRE.out.has 6).trans rfl
              cases h6 with
              | false =>
                obtain ⟨z1, z2, z3⟩ := nextS_false HN6.out
                have HNX : Hid (csF 7 = #[.int .i64 K, .string q0, .string q1, .string q2, .string q3, .int .i64 n4, .int .i64 n5, .int .u64 0]) := Lib.hid (by rw [HCS7.out, show nu = 0 from by rw [← Hnu.out, show n6 = 0 from by rw [← HNA6.out, z1]; exact amt_empty]; decide])
                have HZ2 : Hid (jF 7 = j6) := Lib.hid (by rw [HJ7.out, z2])
                have HZ3 : Hid (rF 7 = true → 7 = 0 ∧ K = 0) := Lib.hid (fun h => by rw [HR_7.out, z3, ← HR_6.out] at h; have := HRF.out h; omega)
                clear z1 z2 z3
                go_wp2
                go_roundw
                case rel => exact ⟨7, by omega, by go_num, by rw [HZ2.out] <;> rfl, HZ3, by rw [HNX.out]; exact HRE⟩
                case measure => simp [intOf]
              | true =>
                rcases Nat.lt_or_ge (j6 : Nat) L.length with hlt | hge
                · obtain ⟨z1, z2, z3⟩ := nextS_true hlt HN6.out
                  have HQ : Hid (∀ {W : World} {cs : Array Value}, RE w w.heap.size bc (.slice (some ⟨g, 0, none⟩) L.length cap) L cs gh #[.bool h0, .bool h1, .bool h2, .bool h3, .bool h4, .bool h5, .bool true] W → W.cell? ⟨g, j6, none⟩ = some (.string q6)) := Lib.hid (fun h => by rw [z1]; exact h.a.word hlt)
                  have dw := HQ.out HRE.out
                  have hj1 : decide ((L.length : Int) ≤ (((j6 : Nat) : Nat) : Int)) = false := decide_eq_false (by omega)
                  have hj2 : decide (L.length ≤ (j6 : Nat)) = false := decide_eq_false (by omega)
                  have hj3 : (((j6 : Nat) : Nat) : Int) < (L.length : Int) := by omega
                  have HZ2 : Hid (jF 7 = j6 + 1) := Lib.hid (by rw [HJ7.out, z2])
                  have HZ3 : Hid (rF 7 = true → 7 = 0 ∧ K = 0) := Lib.hid (fun h => by rw [HR_7.out, z3, ← HR_6.out] at h; have := HRF.out h; omega)
                  clear z1 z2 z3 hlt
                  go_wp2_with (go_at_call 33; refine (HP6.out _ HRE.out.a.glob).mono ?_; rintro e w6 ⟨rfl, hb⟩; have HRE6 := Lib.hid (HRE.out.step hb); clear hb HRE d0 dh dw; have dw := HQ.out HRE6.out; have da : w6.cell? ⟨bc, 7, none⟩ = some (.int .u64 0) := (blk_cell HRE6.out.a.cmd 7).trans rfl; have db : w6.frozen? ⟨bc, 7, none⟩ = false := blk_frozen HRE6.out.a.cmd 7)
                  go_roundw
                  case rel => exact ⟨7, by omega, by go_num, by rw [HZ2.out]; have hLb_ := HLL.out.2; first | go_num | (refine congrArg (Value.int .i64) ?_; unfold wrap64; omega), HZ3, by rw [HCS7.out, ← Hnu.out]; exact Lib.hid (HRE6.out.setC 7 (.int .u64 (IntKind.u64.wrap n6)) rfl)⟩
                  case measure => simp [intOf]
                · have HW0 : Hid (wrongL L = true) := Lib.hid (by rw [HCAND.out.2]; exact HWR7.out (nextS_out hge HN6.out))
                  have hj1 : decide ((L.length : Int) ≤ (((j6 : Nat) : Nat) : Int)) = true := decide_eq_true (by omega)
                  have hj2 : decide (L.length ≤ (j6 : Nat)) = true := decide_eq_true hge
                  clear hge
                  go_wp2_with (first | (refine wpList_store_row rfl 25 _ _ rfl w.heap.size _ rfl rfl 25 _ HRE.out.a.res (by kernel_rfl) rfl (by first | kernel_rfl | simp [Value.oneCell']) ?_))
                  refine bodyPost_ret (results_list rfl (by show (2 : Nat) ≠ 1; decide) (Vals.cell w.heap.size _ _ _ _ rfl (setRow_heap _ _ _ _ _ _ HRE.out.a.res) Tryd.underlying25 rfl (by kernel_rfl) (Vals.tmp Vals.nil))) rfl ?_
                  refine ⟨?_, below_setRow HRE.out.a.below (Nat.le_refl _) _⟩
                  rw [dec_no (L := L) HL.out (by rw [HW0.out]; rfl)]
                  rfl
end Go.Proofs.YtdpdbmdnmgaeiaaDoor.E

