/- The walk of wire.Decode. -/
import Derived.Test.YtdpdbmdnmgaeiaaDoorNext
import Derived.Outline
import Derived.Laws.EntriesVeiled
namespace Go.Proofs.YtdpdbmdnmgaeiaaDoor.E
open Go.RowKit Go.Proofs.YtdpdbmdnmgaeiaaDoor.P Go.Proofs.YtdpdbmdnmgaeiaaDoorW.PrintWords Go.Proofs.YtdpdbmdnmgaeiaaDoorW.PrintLast
theorem split_whole (s : ByteArray) (hs : s.size < 4294967281) (w : World) (hG : Glob w) :
    Calls Tryd.prog 28 #[.string s, .string ⟨#[32]⟩] w fun e w' => e = .returned (.slice (some ⟨w.heap.size, 0, none⟩) (splitOn s 32).length (splitOn s 32).length) ∧ w' = w.alloc (.cells ((splitOn s 32).map Value.string).toArray 9) := by
  obtain ⟨m, hm⟩ := hG.max
  have h := Tryd.strings_Split s ⟨#[32]⟩ m w hs hm (Nat.le_refl _)
  rw [splitB_one, ← length_splitOn] at h
  exact h
theorem split_len (s : ByteArray) : 1 ≤ (splitOn s 32).length ∧ (splitOn s 32).length ≤ s.size + 2 := by
  rw [length_splitOn]
  have := Lib.count_le s.data.toList [32]
  have h2 : s.data.toList.length = s.size := by simp
  show 1 ≤ Lib.count s.data.toList [32] + 1 ∧ Lib.count s.data.toList [32] + 1 ≤ _
  omega
theorem cutAt_len (c : UInt8) : ∀ (l : List UInt8), ∀ x ∈ cutAt c l, x.length ≤ l.length
  | [], x, h => by
    simp only [cutAt, List.mem_singleton] at h
    rw [h]
    exact Nat.le_refl _
  | b :: l, x, h => by
    by_cases hb : b = c
    · subst hb
      rw [cutAt_cons_eq] at h
      rcases List.mem_cons.1 h with rfl | h
      · exact Nat.zero_le _
      · have := cutAt_len b l x h
        simp only [List.length_cons]
        omega
    · obtain ⟨y, t, e1, e2⟩ := cutAt_cons_ne hb l
      rw [e2] at h
      have ih := cutAt_len c l
      rw [e1] at ih
      rcases List.mem_cons.1 h with rfl | h
      · have := ih y List.mem_cons_self
        simp only [List.length_cons]
        omega
      · have := ih x (List.mem_cons_of_mem _ h)
        simp only [List.length_cons]
        omega
theorem split_size (s : ByteArray) : ∀ x ∈ splitOn s 32, x.size ≤ s.size := by
  intro x h
  unfold splitOn at h
  obtain ⟨y, hy, rfl⟩ := List.mem_map.1 h
  have := cutAt_len 32 s.data.toList y hy
  rw [data_length] at this
  show y.toArray.size ≤ _
  rw [List.size_toArray]
  exact this
def Z8 : Array Value := #[.int .i64 0, .string ⟨#[]⟩, .string ⟨#[]⟩, .string ⟨#[]⟩, .string ⟨#[]⟩, .int .i64 0, .int .i64 0, .int .u64 0]
theorem str_bytes (s : ByteArray) : strOfNums (bytesOf s) = s := by
  apply text_ext
  unfold strOfNums bytesOf
  simp [List.map_map, Function.comp_def]
theorem dec_no {s : ByteArray} {L : List ByteArray} (h : L = splitOn s 32) (hf : (!wrongL L && (candL L).ok && ((candL L).enc.toList == s.toList)) = false) : decS s = (Cmd.zero, 200) := by
  unfold decS
  rw [← h, hf]
  rfl
theorem dec_yes {s : ByteArray} {L : List ByteArray} (h : L = splitOn s 32) (hf : (!wrongL L && (candL L).ok && ((candL L).enc.toList == s.toList)) = true) : decS s = (candL L, 0) := by
  unfold decS
  rw [← h, hf]
  rfl
theorem size_alloc (w : World) (o : Obj) : (w.alloc o).heap.size = w.heap.size + 1 := by
  show (w.heap.push o).size = _
  exact Array.size_push _
theorem DA.mk1 {w : World} {L : List ByteArray} {lv : Value} (hG : Glob w) :
    DA w w.heap.size (w.heap.size + 1 + 1) (w.heap.size + 1 + 1 + 1) (w.heap.size + 1) L Z8 lv ((((w.alloc (.cells Z8 25)).alloc (.cells (L.map Value.string).toArray 9)).alloc (.cells #[lv] 40)).alloc (.cells Z8 25)) := by
  have h0 := heap_alloc_new w (.cells Z8 25)
  have h1 := heap_alloc_new (w.alloc (.cells Z8 25)) (.cells (L.map Value.string).toArray 9)
  have h2 := heap_alloc_new ((w.alloc (.cells Z8 25)).alloc (.cells (L.map Value.string).toArray 9)) (.cells #[lv] 40)
  have h3 := heap_alloc_new (((w.alloc (.cells Z8 25)).alloc (.cells (L.map Value.string).toArray 9)).alloc (.cells #[lv] 40)) (.cells Z8 25)
  rw [size_alloc] at h1
  rw [size_alloc, size_alloc] at h2
  rw [size_alloc, size_alloc, size_alloc] at h3
  exact ⟨blk_alloc (blk_alloc (blk_alloc h0 _) _) _, blk_alloc h2 _, h3, blk_alloc (blk_alloc h1 _) _, below_alloc (below_alloc (below_alloc (below_alloc (Below.refl _ _) _) _) _) _, hG, ⟨Nat.le_refl _, by omega, by omega⟩, by omega⟩
theorem DB.mk1 {w W : World} {bR bl bc bL : Nat} {L : List ByteArray} {cs : Array Value} {lv : Value} (h : DA w bR bl bc bL L cs lv W) (u : Value) (b : Bool) (fv : Value) :
    DB w bR bl bc bL W.heap.size (W.heap.size + 1) L cs u b fv (((W.setCell ⟨bl, 0, none⟩ u).alloc (.cells #[.bool b] 4)).alloc (.cells #[fv] 49)) := by
  have h1 := h.setL u
  have hz : (W.setCell ⟨bl, 0, none⟩ u).heap.size = W.heap.size := by simp [World.setCell]
  have h2 := h1.step (below_alloc (below_alloc (Below.refl _ _) (.cells #[.bool b] 4)) (.cells #[fv] 49))
  have a1 := heap_alloc_new (W.setCell ⟨bl, 0, none⟩ u) (.cells #[.bool b] 4)
  have a2 := heap_alloc_new ((W.setCell ⟨bl, 0, none⟩ u).alloc (.cells #[.bool b] 4)) (.cells #[fv] 49)
  rw [hz] at a1
  rw [size_alloc, hz] at a2
  exact ⟨h2, blk_alloc a1 _, a2, h.below.size⟩
set_option maxHeartbeats 16000000 in
set_option maxRecDepth 100000 in
set_option linter.unusedSimpArgs false in
theorem wire_Decode.calls (A0 : Option Addr) (c0 : Nat) (l0 : List Int) (w : World) (hG : Glob w) (hr0 : Kd.C (Kd.int .u8) w A0 l0.length l0) (hl0 : l0.length ≤ 1000000) :
    Calls Tryd.prog 13 #[.slice A0 l0.length c0] w fun e w' => e = .returned (.tuple #[.agg (decS (strOfNums l0)).1.cs, .int .i64 (decS (strOfNums l0)).2]) ∧ Below w.heap.size w w' := by
  have hcv := fun o : Obj => Kd.C_string (P := Tryd.prog) (c := c0) Tryd.underlying26 Tryd.underlying5 Tryd.underlying9 (Kd.C_below hr0 (below_alloc (Below.refl _ w) o))
  have hss : (strOfNums l0).size ≤ 1000000 := by rw [← size_len]; simp [strOfNums]; omega
  obtain ⟨s, hs⟩ : ∃ s, s = strOfNums l0 := ⟨_, rfl⟩
  rw [← hs] at hcv hss ⊢
  obtain ⟨L, hL⟩ : ∃ L, L = splitOn s 32 := ⟨_, rfl⟩
  have HS : Hid (∀ W, Glob W → Calls Tryd.prog 28 #[.string s, .string ⟨#[32]⟩] W fun e w' => e = .returned (.slice (some ⟨W.heap.size, 0, none⟩) L.length L.length) ∧ w' = W.alloc (.cells (L.map Value.string).toArray 9)) := Lib.hid fun W hW => by rw [hL]; exact split_whole s (by omega) W hW
  have hLl : 1 ≤ L.length ∧ L.length ≤ 1000002 := by rw [hL]; have := split_len s; omega
  have HLS : Hid (∀ x ∈ L, x.size ≤ 1000000) := Lib.hid (by rw [hL]; intro x hx; have := split_size s x hx; omega)
  obtain ⟨fa, hfa⟩ : ∃ x : Array Value, x = (firsts.map Value.string).toArray := ⟨_, rfl⟩
  have HF : Hid (∀ W, Calls Tryd.prog 19 #[] W fun e w' => e = .returned (.agg fa) ∧ Below W.heap.size W w') := Lib.hid fun W => by rw [hfa]; exact wire_first_calls W
  have HIX : Hid (∀ k : Nat, k < 14 → ∀ W, (Instr.index 38 (.agg fa) (.int .i64 (k : Int))).run Tryd.prog W = .ok (.string (firsts.getD k ByteArray.empty)) W) := Lib.hid fun k hk W => by rw [hfa]; exact idx_first (by omega) W
  have HG := Lib.hid hG
  have HL := Lib.hid hL
  have HR0 := Lib.hid hr0
  have HSS : Hid (strOfNums l0 = s) := Lib.hid hs.symm
  clear hfa hL hs hG hr0 hss
  go_enter Tryd.func13, Tryd.ntmps13
  go_upto_region 3 with (go_at_call 28; refine (HS.out _ (HG.out.below (below_alloc (Below.refl _ _) _))).mono ?_; rintro e w1 ⟨rfl, rfl⟩)
  go_cut [16, 17] (fun v16 v17 wc => v16 = .agg fa ∧ v17 = .int .i64 0 ∧ Hid (DA w w.heap.size (w.heap.size + 1 + 1) (w.heap.size + 1 + 1 + 1) (w.heap.size + 1) L Z8 (.slice (some ⟨w.heap.size + 1, 0, none⟩) L.length L.length) wc))
  case first =>
    go_wp2_with (go_at_call 19; refine (HF.out _).mono ?_; rintro e w2 ⟨rfl, hb⟩; have HDA := Lib.hid (DA.step (DA.mk1 HG.out) hb); clear hb)
    go_meet
    case rel => exact ⟨rfl, rfl, HDA⟩
  case rest =>
    clear HS HF hcv
    obtain ⟨rfl, rfl, HDA⟩ := hcut
    obtain ⟨bR, hbR⟩ : ∃ b, b = w.heap.size := ⟨_, rfl⟩
    obtain ⟨bL, hbL⟩ : ∃ b, b = w.heap.size + 1 := ⟨_, rfl⟩
    rw [← hbL] at HDA ⊢
    obtain ⟨bl, hbl⟩ : ∃ b, b = bL + 1 := ⟨_, rfl⟩
    rw [← hbl] at HDA ⊢
    obtain ⟨bc, hbc⟩ : ∃ b, b = bl + 1 := ⟨_, rfl⟩
    rw [← hbc] at HDA ⊢
    obtain ⟨x, hx⟩ : ∃ x, x = L.getD 0 ByteArray.empty := ⟨_, rfl⟩
    have HX : Hid ((L.map Value.string).toArray[0]? = some (.string x)) := Lib.hid (by
      rw [hx]
      simp [List.getD_eq_getElem?_getD, show 0 < L.length by omega])
    have HXX := Lib.hid hx
    have hn : 0 < L.length := by omega
    have HLL := Lib.hid hLl
    have HB3 := Lib.hid (And.intro hbR (And.intro hbL (And.intro hbl hbc)))
    clear hx hLl hbR hbL hbl hbc
    go_wp2
    go_loopw [17] (fun i wr => ∃ k : Nat, k ≤ 14 ∧ i = .int .i64 k ∧ Hid (DA w w.heap.size bl bc bL L #[.int .i64 (kindTo x k : Nat), .string ⟨#[]⟩, .string ⟨#[]⟩, .string ⟨#[]⟩, .string ⟨#[]⟩, .int .i64 0, .int .i64 0, .int .u64 0] (.slice (some ⟨bL, 0, none⟩) L.length L.length) wr)) (fun i _ => 14 - (intOf i).toNat)
    case atStart => exact ⟨0, by omega, rfl, HDA⟩
    case round =>
      clear HDA
      obtain ⟨k, hk, rfl, HDA⟩ := hrel
      rcases Nat.lt_or_ge k 14 with hlt | hge
      · have hidx := HIX.out k hlt
        have hk1 : decide ((k : Int) < 14) = true := decide_eq_true (by omega)
        have d0 : wr.cell? ⟨bl, 0, none⟩ = some (.slice (some ⟨bL, 0, none⟩) L.length L.length) := (blk_cell HDA.out.lst 0).trans rfl
        have d1 : wr.cell? ⟨bL, 0, none⟩ = some (.string x) := (blk_cell HDA.out.row 0).trans HX.out
        have d2 : wr.cell? ⟨bc, 0, none⟩ = some (.int .i64 (kindTo x k : Nat)) := (blk_cell HDA.out.cmd 0).trans rfl
        have d3 : wr.frozen? ⟨bc, 0, none⟩ = false := blk_frozen HDA.out.cmd 0
        have HKN : Hid (kindTo x (k + 1) = if (firsts.getD k ByteArray.empty).toList == x.toList && decide (0 < k) then k else kindTo x k) := Lib.hid rfl
        obtain ⟨f, hf⟩ : ∃ f, firsts.getD k ByteArray.empty = f := ⟨_, rfl⟩
        rw [hf] at hidx HKN
        obtain ⟨b, hb⟩ : ∃ b, (f.toList == x.toList) = b := ⟨_, rfl⟩
        rw [hb] at HKN
        clear hf
        cases b with
        | true =>
          rcases Nat.eq_zero_or_pos k with hp | hp
          · have hp1 : decide ((0 : Int) < (k : Int)) = false := decide_eq_false (by omega)
            have hp2 : decide (0 < k) = false := decide_eq_false (by omega)
            have HP2 := Lib.hid hp2
            clear hp
            go_wp2
            go_roundw
            case rel => exact ⟨k + 1, by omega, by go_num, by rw [HKN.out, HP2.out]; exact HDA⟩
            case measure => simp [intOf]; omega
          · have hp1 : decide ((0 : Int) < (k : Int)) = true := decide_eq_true (by omega)
            have HHP := Lib.hid hp
            go_wp2
            go_roundw
            case rel => exact ⟨k + 1, by omega, by go_num, by rw [HKN.out, decide_eq_true HHP.out]; exact Lib.hid (HDA.out.setC 0 (.int .i64 (k : Int)) rfl)⟩
            case measure => simp [intOf]; omega
        | false =>
          go_wp2
          go_roundw
          case rel => exact ⟨k + 1, by omega, by go_num, by rw [HKN.out]; exact HDA⟩
          case measure => simp [intOf]; omega
      · obtain rfl : k = 14 := by omega
        clear hk hge
        obtain ⟨K, hK⟩ : ∃ K : Int, K = ((kindTo x 14 : Nat) : Int) := ⟨_, rfl⟩
        rw [← hK] at HDA
        have hKL : K = kindOf L := by rw [hK, HXX.out]; rfl
        have HK : Hid (0 ≤ K ∧ K ≤ 13) := Lib.hid (by rw [hKL]; exact kindOf_le L)
        have HKL := Lib.hid hKL
        have hcut1 := fun W => cut_one bL L.length 0 (by omega) W
        rw [show lvAt bL L.length 0 = .slice (some ⟨bL, 0, none⟩) L.length L.length from by unfold lvAt; rw [Nat.min_eq_left (Nat.zero_le _)]; rfl] at hcut1
        obtain ⟨o1, m1, hlv1⟩ : ∃ o1 m1, lvAt bL L.length (0 + 1) = .slice (some ⟨bL, o1, none⟩) m1 m1 := ⟨_, _, rfl⟩
        rw [hlv1] at hcut1
        have HLV1 := Lib.hid hlv1
        have d0 : wr.cell? ⟨bl, 0, none⟩ = some (.slice (some ⟨bL, 0, none⟩) L.length L.length) := (blk_cell HDA.out.lst 0).trans rfl
        have d1 : wr.frozen? ⟨bl, 0, none⟩ = false := blk_frozen HDA.out.lst 0
        have hne : (bl = bc) = False := eq_false (fun e => absurd (HB3.out.2.2.2) (by omega))
        have d2 : wr.cell? ⟨bc, 0, none⟩ = some (.int .i64 K) := (blk_cell HDA.out.cmd 0).trans rfl
        clear hK hKL hlv1 HIX HX HXX
        go_upto_region 13 with (fail)
        clear d0 d1 d2 hcut1
        obtain ⟨wr0, hwr0⟩ : ∃ b, b = (K == 0) := ⟨_, rfl⟩
        rw [← hwr0]
        have HDB := Lib.hid (DB.mk1 HDA.out (.slice (some ⟨bL, o1, none⟩) m1 m1) wr0 (nextV bc bl wr.heap.size))
        unfold nextV at HDB
        revert HDB
        generalize (((wr.setCell ⟨bl, 0, none⟩ (.slice (some ⟨bL, o1, none⟩) m1 m1)).alloc (.cells #[.bool wr0] 4)).alloc (.cells #[.func (.func 29) #[] #[.pointer (some ⟨bc, 0, none⟩), .pointer (some ⟨bl, 0, none⟩), .pointer (some ⟨wr.heap.size, 0, none⟩)]] 49)) = wx
        obtain ⟨bw, hbw⟩ : ∃ b, b = wr.heap.size := ⟨_, rfl⟩
        rw [← hbw]
        obtain ⟨bn, hbn⟩ : ∃ b, b = bw + 1 := ⟨_, rfl⟩
        rw [← hbn, ← HLV1.out]
        intro HDB
        clear HDA hbw hbn hne
        obtain ⟨h0, hh0⟩ : ∃ b, hasW K 0 = b := ⟨_, rfl⟩
        obtain ⟨q0, j1, r1, e0⟩ : ∃ q j r, nextS L h0 (1, wr0) = (q, j, r) := ⟨_, _, _, rfl⟩
        have hj1 := nextS_le e0 HLL.out.1
        have hz0 := nextS_size e0 HLS.out
        have hm0 : (bits .and .i64 (maskOf K) 1 == 0) = !h0 := by rw [← hh0]; exact mask_test HK.out 0 (by omega)
        have HN0 := Lib.hid (next_at hm0 HK.out e0 HLL.out.1 (by have := HLL.out; omega) w)
        obtain ⟨h1, hh1⟩ : ∃ b, hasW K 1 = b := ⟨_, rfl⟩
        obtain ⟨q1, j2, r2, e1⟩ : ∃ q j r, nextS L h1 (j1, r1) = (q, j, r) := ⟨_, _, _, rfl⟩
        have hj2 := nextS_le e1 hj1
        have hz1 := nextS_size e1 HLS.out
        have hm1 : (bits .and .i64 (maskOf K) 2 == 0) = !h1 := by rw [← hh1]; exact mask_test HK.out 1 (by omega)
        have HN1 := Lib.hid (next_at hm1 HK.out e1 hj1 (by have := HLL.out; omega) w)
        obtain ⟨h2, hh2⟩ : ∃ b, hasW K 2 = b := ⟨_, rfl⟩
        obtain ⟨q2, j3, r3, e2⟩ : ∃ q j r, nextS L h2 (j2, r2) = (q, j, r) := ⟨_, _, _, rfl⟩
        have hj3 := nextS_le e2 hj2
        have hz2 := nextS_size e2 HLS.out
        have hm2 : (bits .and .i64 (maskOf K) 4 == 0) = !h2 := by rw [← hh2]; exact mask_test HK.out 2 (by omega)
        have HN2 := Lib.hid (next_at hm2 HK.out e2 hj2 (by have := HLL.out; omega) w)
        obtain ⟨h3, hh3⟩ : ∃ b, hasW K 3 = b := ⟨_, rfl⟩
        obtain ⟨q3, j4, r4, e3⟩ : ∃ q j r, nextS L h3 (j3, r3) = (q, j, r) := ⟨_, _, _, rfl⟩
        have hj4 := nextS_le e3 hj3
        have hz3 := nextS_size e3 HLS.out
        have hm3 : (bits .and .i64 (maskOf K) 8 == 0) = !h3 := by rw [← hh3]; exact mask_test HK.out 3 (by omega)
        have HN3 := Lib.hid (next_at hm3 HK.out e3 hj3 (by have := HLL.out; omega) w)
        obtain ⟨h4, hh4⟩ : ∃ b, hasW K 4 = b := ⟨_, rfl⟩
        obtain ⟨q4, j5, r5, e4⟩ : ∃ q j r, nextS L h4 (j4, r4) = (q, j, r) := ⟨_, _, _, rfl⟩
        have hj5 := nextS_le e4 hj4
        have hz4 := nextS_size e4 HLS.out
        have hm4 : (bits .and .i64 (maskOf K) 16 == 0) = !h4 := by rw [← hh4]; exact mask_test HK.out 4 (by omega)
        obtain ⟨n4, hn4⟩ : ∃ n, amtOf q4 = n := ⟨_, rfl⟩
        have HN4 := Lib.hid (count_at hm4 HK.out e4 hj4 (by have := HLL.out; omega) HLS.out hn4 w)
        obtain ⟨h5, hh5⟩ : ∃ b, hasW K 5 = b := ⟨_, rfl⟩
        obtain ⟨q5, j6, r6, e5⟩ : ∃ q j r, nextS L h5 (j5, r5) = (q, j, r) := ⟨_, _, _, rfl⟩
        have hj6 := nextS_le e5 hj5
        have hz5 := nextS_size e5 HLS.out
        have hm5 : (bits .and .i64 (maskOf K) 32 == 0) = !h5 := by rw [← hh5]; exact mask_test HK.out 5 (by omega)
        obtain ⟨n5, hn5⟩ : ∃ n, amtOf q5 = n := ⟨_, rfl⟩
        have HN5 := Lib.hid (count_at hm5 HK.out e5 hj5 (by have := HLL.out; omega) HLS.out hn5 w)
        obtain ⟨h6, hh6⟩ : ∃ b, hasW K 6 = b := ⟨_, rfl⟩
        obtain ⟨q6, j7, r7, e6⟩ : ∃ q j r, nextS L h6 (j6, r6) = (q, j, r) := ⟨_, _, _, rfl⟩
        have hj7 := nextS_le e6 hj6
        have hz6 := nextS_size e6 HLS.out
        have hm6 : (bits .and .i64 (maskOf K) 64 == 0) = !h6 := by rw [← hh6]; exact mask_test HK.out 6 (by omega)
        obtain ⟨n6, hn6⟩ : ∃ n, amtOf q6 = n := ⟨_, rfl⟩
        have HN6 := Lib.hid (count_at hm6 HK.out e6 hj6 (by have := HLL.out; omega) HLS.out hn6 w)
        have hs0 : stTo L K 0 = (1, wr0) := by rw [hwr0]; rfl
        have hs1 : stTo L K 1 = (j1, r1) := by show (nextS L (hasW K 0) (stTo L K 0)).2 = _; rw [hs0, hh0, e0]
        have hq0 : wdAt L K 0 = q0 := by show (nextS L (hasW K 0) (stTo L K 0)).1 = _; rw [hs0, hh0, e0]
        have hs2 : stTo L K 2 = (j2, r2) := by show (nextS L (hasW K 1) (stTo L K 1)).2 = _; rw [hs1, hh1, e1]
        have hq1 : wdAt L K 1 = q1 := by show (nextS L (hasW K 1) (stTo L K 1)).1 = _; rw [hs1, hh1, e1]
        have hs3 : stTo L K 3 = (j3, r3) := by show (nextS L (hasW K 2) (stTo L K 2)).2 = _; rw [hs2, hh2, e2]
        have hq2 : wdAt L K 2 = q2 := by show (nextS L (hasW K 2) (stTo L K 2)).1 = _; rw [hs2, hh2, e2]
        have hs4 : stTo L K 4 = (j4, r4) := by show (nextS L (hasW K 3) (stTo L K 3)).2 = _; rw [hs3, hh3, e3]
        have hq3 : wdAt L K 3 = q3 := by show (nextS L (hasW K 3) (stTo L K 3)).1 = _; rw [hs3, hh3, e3]
        have hs5 : stTo L K 5 = (j5, r5) := by show (nextS L (hasW K 4) (stTo L K 4)).2 = _; rw [hs4, hh4, e4]
        have hq4 : wdAt L K 4 = q4 := by show (nextS L (hasW K 4) (stTo L K 4)).1 = _; rw [hs4, hh4, e4]
        have hs6 : stTo L K 6 = (j6, r6) := by show (nextS L (hasW K 5) (stTo L K 5)).2 = _; rw [hs5, hh5, e5]
        have hq5 : wdAt L K 5 = q5 := by show (nextS L (hasW K 5) (stTo L K 5)).1 = _; rw [hs5, hh5, e5]
        have hs7 : stTo L K 7 = (j7, r7) := by show (nextS L (hasW K 6) (stTo L K 6)).2 = _; rw [hs6, hh6, e6]
        have hq6 : wdAt L K 6 = q6 := by show (nextS L (hasW K 6) (stTo L K 6)).1 = _; rw [hs6, hh6, e6]
        obtain ⟨nu, hnu⟩ : ∃ n, IntKind.u64.wrap n6 = n := ⟨_, rfl⟩
        have hnu0 : 0 ≤ nu := by rw [← hnu, IntKind.wrap_u64]; omega
        have HCAND : Hid (candL L = ⟨K, q0, q1, q2, q3, n4, n5, nu⟩ ∧ wrongL L = r7) := Lib.hid (by
          constructor
          · unfold candL
            rw [← HKL.out, hq0, hq1, hq2, hq3, hq4, hq5, hq6, hn4, hn5, hn6, hnu]
          · unfold wrongL
            rw [← HKL.out, hs7])
        obtain ⟨ok, hok⟩ : ∃ b, okCmd K q0 q1 q2 q3 n4 n5 nu = b := ⟨_, rfl⟩
        obtain ⟨E, hE⟩ : ∃ x : ByteArray, (if ok then encB K q0 q1 q2 q3 n4 n5 nu else ⟨#[]⟩) = x := ⟨_, rfl⟩
        obtain ⟨er, her⟩ : ∃ x : Int, (if ok then 0 else 200) = x := ⟨_, rfl⟩
        have HE : Hid (∀ W, Glob W → Calls Tryd.prog 11 #[.agg #[.int .i64 K, .string q0, .string q1, .string q2, .string q3, .int .i64 n4, .int .i64 n5, .int .u64 nu]] W (EncRet W E er)) := Lib.hid fun W hW => by
          have := wire_Encode.calls K q0 q1 q2 q3 n4 n5 nu W hW ⟨hz0, hz1, hz2, hz3⟩ hnu0
          rw [hok, hE, her] at this
          exact this
        have Hok := Lib.hid hok; have HEE := Lib.hid hE; have Her := Lib.hid her; have Hnu := Lib.hid hnu
        clear hok hE her hnu hnu0
        clear hh0 e0 hj1 hz0 hm0 hs0 hq0 hh1 e1 hj2 hz1 hm1 hs1 hq1 hh2 e2 hj3 hz2 hm2 hs2 hq2 hh3 e3 hj4 hz3 hm3 hs3 hq3 hh4 e4 hj5 hz4 hm4 hs4 hq4 hh5 e5 hj6 hz5 hm5 hs5 hq5 hh6 e6 hj7 hz6 hm6 hs6 hq6 hs7 hn4 hn5 hn6
        clear HKL hwr0 HLS HLL HB3 HK HLV1
        go_cut [] (fun wc => Hid (DB w w.heap.size bl bc bL bw bn L #[.int .i64 K, .string q0, .string ⟨#[]⟩, .string ⟨#[]⟩, .string ⟨#[]⟩, .int .i64 0, .int .i64 0, .int .u64 0] (lvAt bL L.length j1) r1 (nextV bc bl bw) wc))
        case first =>
          have d0 : wx.cell? ⟨bn, 0, none⟩ = some (.func (.func 29) #[] #[.pointer (some ⟨bc, 0, none⟩), .pointer (some ⟨bl, 0, none⟩), .pointer (some ⟨bw, 0, none⟩)]) := (blk_cell HDB.out.nxt 0).trans rfl
          go_wp2_with (go_at_call 29; refine (HN0.out w.heap.size bl bc bL bw bn _ _ _ _ _ _ _ _ _ HDB.out).mono ?_; rintro e w2 ⟨rfl, hdb⟩; have HD2 := Lib.hid hdb; clear hdb HDB; have d1 : w2.cell? ⟨bc, 1, none⟩ = some (.string ⟨#[]⟩) := (blk_cell HD2.out.a.cmd 1).trans rfl; have d2 : w2.frozen? ⟨bc, 1, none⟩ = false := blk_frozen HD2.out.a.cmd 1)
          go_meet
          case rel => exact Lib.hid (HD2.out.setC 1 (.string q0) rfl)
        case rest =>
          clear HDB HN0
          have HDB := hcut
          clear hcut
          go_upto_region 14 with (fail)
          go_cut [] (fun wc => Hid (DB w w.heap.size bl bc bL bw bn L #[.int .i64 K, .string q0, .string q1, .string ⟨#[]⟩, .string ⟨#[]⟩, .int .i64 0, .int .i64 0, .int .u64 0] (lvAt bL L.length j2) r2 (nextV bc bl bw) wc))
          case first =>
            have d0 : wc.cell? ⟨bn, 0, none⟩ = some (.func (.func 29) #[] #[.pointer (some ⟨bc, 0, none⟩), .pointer (some ⟨bl, 0, none⟩), .pointer (some ⟨bw, 0, none⟩)]) := (blk_cell HDB.out.nxt 0).trans rfl
            go_wp2_with (go_at_call 29; refine (HN1.out w.heap.size bl bc bL bw bn _ _ _ _ _ _ _ _ _ HDB.out).mono ?_; rintro e w2 ⟨rfl, hdb⟩; have HD2 := Lib.hid hdb; clear hdb HDB; have d1 : w2.cell? ⟨bc, 2, none⟩ = some (.string ⟨#[]⟩) := (blk_cell HD2.out.a.cmd 2).trans rfl; have d2 : w2.frozen? ⟨bc, 2, none⟩ = false := blk_frozen HD2.out.a.cmd 2)
            go_meet
            case rel => exact Lib.hid (HD2.out.setC 2 (.string q1) rfl)
          case rest =>
            clear HDB HN1
            have HDB := hcut
            clear hcut
            go_upto_region 15 with (fail)
            go_cut [] (fun wc => Hid (DB w w.heap.size bl bc bL bw bn L #[.int .i64 K, .string q0, .string q1, .string q2, .string ⟨#[]⟩, .int .i64 0, .int .i64 0, .int .u64 0] (lvAt bL L.length j3) r3 (nextV bc bl bw) wc))
            case first =>
              have d0 : wc.cell? ⟨bn, 0, none⟩ = some (.func (.func 29) #[] #[.pointer (some ⟨bc, 0, none⟩), .pointer (some ⟨bl, 0, none⟩), .pointer (some ⟨bw, 0, none⟩)]) := (blk_cell HDB.out.nxt 0).trans rfl
              go_wp2_with (go_at_call 29; refine (HN2.out w.heap.size bl bc bL bw bn _ _ _ _ _ _ _ _ _ HDB.out).mono ?_; rintro e w2 ⟨rfl, hdb⟩; have HD2 := Lib.hid hdb; clear hdb HDB; have d1 : w2.cell? ⟨bc, 3, none⟩ = some (.string ⟨#[]⟩) := (blk_cell HD2.out.a.cmd 3).trans rfl; have d2 : w2.frozen? ⟨bc, 3, none⟩ = false := blk_frozen HD2.out.a.cmd 3)
              go_meet
              case rel => exact Lib.hid (HD2.out.setC 3 (.string q2) rfl)
            case rest =>
              clear HDB HN2
              have HDB := hcut
              clear hcut
              go_upto_region 16 with (fail)
              go_cut [] (fun wc => Hid (DB w w.heap.size bl bc bL bw bn L #[.int .i64 K, .string q0, .string q1, .string q2, .string q3, .int .i64 0, .int .i64 0, .int .u64 0] (lvAt bL L.length j4) r4 (nextV bc bl bw) wc))
              case first =>
                have d0 : wc.cell? ⟨bn, 0, none⟩ = some (.func (.func 29) #[] #[.pointer (some ⟨bc, 0, none⟩), .pointer (some ⟨bl, 0, none⟩), .pointer (some ⟨bw, 0, none⟩)]) := (blk_cell HDB.out.nxt 0).trans rfl
                go_wp2_with (go_at_call 29; refine (HN3.out w.heap.size bl bc bL bw bn _ _ _ _ _ _ _ _ _ HDB.out).mono ?_; rintro e w2 ⟨rfl, hdb⟩; have HD2 := Lib.hid hdb; clear hdb HDB; have d1 : w2.cell? ⟨bc, 4, none⟩ = some (.string ⟨#[]⟩) := (blk_cell HD2.out.a.cmd 4).trans rfl; have d2 : w2.frozen? ⟨bc, 4, none⟩ = false := blk_frozen HD2.out.a.cmd 4)
                go_meet
                case rel => exact Lib.hid (HD2.out.setC 4 (.string q3) rfl)
              case rest =>
                clear HDB HN3
                have HDB := hcut
                clear hcut
                go_upto_region 17 with (fail)
                go_cut [] (fun wc => Hid (DB w w.heap.size bl bc bL bw bn L #[.int .i64 K, .string q0, .string q1, .string q2, .string q3, .int .i64 n4, .int .i64 0, .int .u64 0] (lvAt bL L.length j5) r5 (nextV bc bl bw) wc))
                case first =>
                  go_wp2_with (go_at_call 30; refine (HN4.out w.heap.size bl bc bL bw bn _ _ _ _ _ _ _ _ HDB.out).mono ?_; rintro e w2 ⟨rfl, hdb⟩; have HD2 := Lib.hid hdb; clear hdb HDB; have d1 : w2.cell? ⟨bc, 5, none⟩ = some (.int .i64 0) := (blk_cell HD2.out.a.cmd 5).trans rfl; have d2 : w2.frozen? ⟨bc, 5, none⟩ = false := blk_frozen HD2.out.a.cmd 5)
                  go_meet
                  case rel => exact Lib.hid (HD2.out.setC 5 (.int .i64 n4) rfl)
                case rest =>
                  clear HDB HN4
                  have HDB := hcut
                  clear hcut
                  go_upto_region 18 with (fail)
                  go_cut [] (fun wc => Hid (DB w w.heap.size bl bc bL bw bn L #[.int .i64 K, .string q0, .string q1, .string q2, .string q3, .int .i64 n4, .int .i64 n5, .int .u64 0] (lvAt bL L.length j6) r6 (nextV bc bl bw) wc))
                  case first =>
                    go_wp2_with (go_at_call 30; refine (HN5.out w.heap.size bl bc bL bw bn _ _ _ _ _ _ _ _ HDB.out).mono ?_; rintro e w2 ⟨rfl, hdb⟩; have HD2 := Lib.hid hdb; clear hdb HDB; have d1 : w2.cell? ⟨bc, 6, none⟩ = some (.int .i64 0) := (blk_cell HD2.out.a.cmd 6).trans rfl; have d2 : w2.frozen? ⟨bc, 6, none⟩ = false := blk_frozen HD2.out.a.cmd 6)
                    go_meet
                    case rel => exact Lib.hid (HD2.out.setC 6 (.int .i64 n5) rfl)
                  case rest =>
                    clear HDB HN5
                    have HDB := hcut
                    clear hcut
                    go_upto_region 19 with (fail)
                    go_cut [] (fun wc => Hid (DB w w.heap.size bl bc bL bw bn L #[.int .i64 K, .string q0, .string q1, .string q2, .string q3, .int .i64 n4, .int .i64 n5, .int .u64 nu] (lvAt bL L.length j7) r7 (nextV bc bl bw) wc))
                    case first =>
                      go_wp2_with (go_at_call 30; refine (HN6.out w.heap.size bl bc bL bw bn _ _ _ _ _ _ _ _ HDB.out).mono ?_; rintro e w2 ⟨rfl, hdb⟩; have HD2 := Lib.hid hdb; clear hdb HDB; have d1 : w2.cell? ⟨bc, 7, none⟩ = some (.int .u64 0) := (blk_cell HD2.out.a.cmd 7).trans rfl; have d2 : w2.frozen? ⟨bc, 7, none⟩ = false := blk_frozen HD2.out.a.cmd 7)
                      go_meet
                      case rel => rw [← Hnu.out]; exact Lib.hid (HD2.out.setC 7 (.int .u64 (IntKind.u64.wrap n6)) rfl)
                    case rest =>
                      clear HDB HN6
                      have HDB := hcut
                      clear hcut
                      go_upto_region 20 with (fail)
                      go_cut [11, 12] (fun v11 v12 wc => ∃ (A : Option Addr) (c : Nat), v11 = .slice A (bytesOf E).length c ∧ v12 = .int .i64 er ∧ Hid (Kd.C (Kd.int .u8) wc A (bytesOf E).length (bytesOf E)) ∧ Hid (DB w w.heap.size bl bc bL bw bn L #[.int .i64 K, .string q0, .string q1, .string q2, .string q3, .int .i64 n4, .int .i64 n5, .int .u64 nu] (lvAt bL L.length j7) r7 (nextV bc bl bw) wc))
                      case first =>
                        have d0 : wc.cell? ⟨bc, 0, none⟩ = some (.int .i64 K) := (blk_cell HDB.out.a.cmd 0).trans rfl
                        have d1 : wc.cell? ⟨bc, 1, none⟩ = some (.string q0) := (blk_cell HDB.out.a.cmd 1).trans rfl
                        have d2 : wc.cell? ⟨bc, 2, none⟩ = some (.string q1) := (blk_cell HDB.out.a.cmd 2).trans rfl
                        have d3 : wc.cell? ⟨bc, 3, none⟩ = some (.string q2) := (blk_cell HDB.out.a.cmd 3).trans rfl
                        have d4 : wc.cell? ⟨bc, 4, none⟩ = some (.string q3) := (blk_cell HDB.out.a.cmd 4).trans rfl
                        have d5 : wc.cell? ⟨bc, 5, none⟩ = some (.int .i64 n4) := (blk_cell HDB.out.a.cmd 5).trans rfl
                        have d6 : wc.cell? ⟨bc, 6, none⟩ = some (.int .i64 n5) := (blk_cell HDB.out.a.cmd 6).trans rfl
                        have d7 : wc.cell? ⟨bc, 7, none⟩ = some (.int .u64 nu) := (blk_cell HDB.out.a.cmd 7).trans rfl
                        go_wp2_with (go_at_call 11; refine (HE.out _ HDB.out.a.glob).mono ?_; rintro e w2 ⟨A, c, rfl, hc, hC, hb⟩; have HC := Lib.hid hC; have HD2 := Lib.hid (HDB.out.step hb); clear hc hC hb HDB d0 d1 d2 d3 d4 d5 d6 d7)
                        go_meet
                        case rel => exact ⟨A, c, rfl, rfl, HC, HD2⟩
                      case rest =>
                        clear HDB HE
                        obtain ⟨A, c, rfl, rfl, HC, HDB⟩ := hcut
                        have hcv1 := Kd.C_string (P := Tryd.prog) (c := c) Tryd.underlying26 Tryd.underlying5 Tryd.underlying9 HC.out
                        rw [str_bytes] at hcv1
                        have hcv2 := Kd.C_string (P := Tryd.prog) (c := c0) Tryd.underlying26 Tryd.underlying5 Tryd.underlying9 (Kd.C_below HR0.out HDB.out.a.below)
                        rw [HSS.out] at hcv2
                        have d0 : wc.cell? ⟨bw, 0, none⟩ = some (.bool r7) := (blk_cell HDB.out.wrg 0).trans rfl
                        cases r7 with
                        | true =>
                          clear hcv1 hcv2
                          go_wp2_with (refine wpList_store_row rfl 25 _ _ rfl w.heap.size _ rfl rfl 25 _ HDB.out.a.res (by kernel_rfl) rfl (by first | kernel_rfl | simp [Value.oneCell']) ?_)
                          refine bodyPost_ret (results_list rfl (by show (2 : Nat) ≠ 1; decide) (Vals.cell w.heap.size _ _ _ _ rfl (setRow_heap _ _ _ _ _ _ HDB.out.a.res) Tryd.underlying25 rfl (by kernel_rfl) (Vals.tmp Vals.nil))) rfl ?_
                          refine ⟨?_, below_setRow HDB.out.a.below (Nat.le_refl _) _⟩
                          rw [dec_no (L := L) HL.out (by rw [HCAND.out.2]; rfl)]
                          rfl
                        | false =>
                          have ho : ok = true ∧ er = 0 ∨ ok = false ∧ er = 200 := by cases ok; exact .inr ⟨rfl, Her.out.symm⟩; exact .inl ⟨rfl, Her.out.symm⟩
                          rcases ho with ⟨rfl, rfl⟩ | ⟨rfl, rfl⟩
                          · obtain ⟨b, hb⟩ : ∃ b, (E.toList == s.toList) = b := ⟨_, rfl⟩
                            have HBQ := Lib.hid hb
                            have HEQ : Hid (encB K q0 q1 q2 q3 n4 n5 nu = E) := HEE
                            cases b with
                            | true =>
                              have d0_ : wc.cell? ⟨bc, 0, none⟩ = some (.int .i64 K) := (blk_cell HDB.out.a.cmd 0).trans rfl
                              have d1_ : wc.cell? ⟨bc, 1, none⟩ = some (.string q0) := (blk_cell HDB.out.a.cmd 1).trans rfl
                              have d2_ : wc.cell? ⟨bc, 2, none⟩ = some (.string q1) := (blk_cell HDB.out.a.cmd 2).trans rfl
                              have d3_ : wc.cell? ⟨bc, 3, none⟩ = some (.string q2) := (blk_cell HDB.out.a.cmd 3).trans rfl
                              have d4_ : wc.cell? ⟨bc, 4, none⟩ = some (.string q3) := (blk_cell HDB.out.a.cmd 4).trans rfl
                              have d5_ : wc.cell? ⟨bc, 5, none⟩ = some (.int .i64 n4) := (blk_cell HDB.out.a.cmd 5).trans rfl
                              have d6_ : wc.cell? ⟨bc, 6, none⟩ = some (.int .i64 n5) := (blk_cell HDB.out.a.cmd 6).trans rfl
                              have d7_ : wc.cell? ⟨bc, 7, none⟩ = some (.int .u64 nu) := (blk_cell HDB.out.a.cmd 7).trans rfl
                              go_wp2_with (refine wpList_store_row rfl 25 _ _ rfl w.heap.size _ rfl rfl 25 _ HDB.out.a.res (by kernel_rfl) rfl (by first | kernel_rfl | simp [Value.oneCell']) ?_)
                              refine bodyPost_ret (results_list rfl (by show (2 : Nat) ≠ 1; decide) (Vals.cell w.heap.size _ _ _ _ rfl (setRow_heap _ _ _ _ _ _ HDB.out.a.res) Tryd.underlying25 rfl (by kernel_rfl) (Vals.tmp Vals.nil))) rfl ?_
                              refine ⟨?_, below_setRow HDB.out.a.below (Nat.le_refl _) _⟩
                              rw [dec_yes (L := L) HL.out (by rw [HCAND.out.1, HCAND.out.2]; show (!false && okCmd K q0 q1 q2 q3 n4 n5 nu && ((encB K q0 q1 q2 q3 n4 n5 nu).toList == s.toList)) = true; rw [Hok.out, HEQ.out, HBQ.out]; rfl), HCAND.out.1]
                              rfl
                            | false =>
                              go_wp2_with (refine wpList_store_row rfl 25 _ _ rfl w.heap.size _ rfl rfl 25 _ HDB.out.a.res (by kernel_rfl) rfl (by first | kernel_rfl | simp [Value.oneCell']) ?_)
                              refine bodyPost_ret (results_list rfl (by show (2 : Nat) ≠ 1; decide) (Vals.cell w.heap.size _ _ _ _ rfl (setRow_heap _ _ _ _ _ _ HDB.out.a.res) Tryd.underlying25 rfl (by kernel_rfl) (Vals.tmp Vals.nil))) rfl ?_
                              refine ⟨?_, below_setRow HDB.out.a.below (Nat.le_refl _) _⟩
                              rw [dec_no (L := L) HL.out (by rw [HCAND.out.1, HCAND.out.2]; show (!false && okCmd K q0 q1 q2 q3 n4 n5 nu && ((encB K q0 q1 q2 q3 n4 n5 nu).toList == s.toList)) = false; rw [Hok.out, HEQ.out, HBQ.out]; rfl)]
                              rfl
                          · skip
                            clear hcv1 hcv2
                            go_wp2_with (refine wpList_store_row rfl 25 _ _ rfl w.heap.size _ rfl rfl 25 _ HDB.out.a.res (by kernel_rfl) rfl (by first | kernel_rfl | simp [Value.oneCell']) ?_)
                            refine bodyPost_ret (results_list rfl (by show (2 : Nat) ≠ 1; decide) (Vals.cell w.heap.size _ _ _ _ rfl (setRow_heap _ _ _ _ _ _ HDB.out.a.res) Tryd.underlying25 rfl (by kernel_rfl) (Vals.tmp Vals.nil))) rfl ?_
                            refine ⟨?_, below_setRow HDB.out.a.below (Nat.le_refl _) _⟩
                            rw [dec_no (L := L) HL.out (by rw [HCAND.out.1, HCAND.out.2]; show (!false && okCmd K q0 q1 q2 q3 n4 n5 nu && ((encB K q0 q1 q2 q3 n4 n5 nu).toList == s.toList)) = false; rw [Hok.out]; rfl)]
                            rfl
end Go.Proofs.YtdpdbmdnmgaeiaaDoor.E

