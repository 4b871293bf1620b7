/- The law WireStrict of the given program: a command's bytes with one more or one fewer are none. -/
import Derived.Test.YtdpdbmdnmgaeiaaDoorAwake20
import Derived.Test.YtdpdbmdnmgaeiaaDoorGlobAt
namespace Go.Proofs.YtdpdbmdnmgaeiaaDoor.E
open Go.RowKit Go.Proofs.YtdpdbmdnmgaeiaaDoor.P Go.Proofs.YtdpdbmdnmgaeiaaDoorW.PrintWords Go.Proofs.YtdpdbmdnmgaeiaaDoorW.PrintLast
theorem info5' : (Tryd.prog.info? 5).map (fun i => (i.zero, i.size, i.bytes)) = some (some (.int .u8 0), 1, 1) := by kernel_rfl
theorem call_encc {w W : World} {cs : Array Value} {post : Ending → World → Prop} {args : Array Value} {E : ByteArray} {er : Int} (hE : ∀ W, Glob W → Calls Tryd.prog 11 args W (EncRet W E er)) (hc : CI w cs W)
    (h : ∀ (A : Option Addr) (c : Nat) (w' : World), CI w cs w' → (bytesOf E).length ≤ c → Kd.C (Kd.int .u8) w' A (bytesOf E).length (bytesOf E) → post (.returned (.tuple #[.slice A (bytesOf E).length c, .int .i64 er])) w') : Calls Tryd.prog 11 args W post :=
  (hE W hc.glob).mono (by rintro e w' ⟨A, c, rfl, hl, hC, hb⟩; exact h A c w' (hc.step hb) hl hC)
theorem dec_any (l : List Int) (hl : l.length ≤ 1000000) : ∃ (k : Int) (rq wh sc mk : ByteArray) (pr am nu f : Int), (decS (strOfNums l)).2 = f ∧ ∀ W (A : Option Addr) (c : Nat), Glob W → Kd.C (Kd.int .u8) W A l.length l →
    Calls Tryd.prog 13 #[.slice A l.length c] W fun e w' => e = .returned (.tuple #[.agg #[.int .i64 k, .string rq, .string wh, .string sc, .string mk, .int .i64 pr, .int .i64 am, .int .u64 nu], .int .i64 f]) ∧ Below W.heap.size W w' := by
  obtain ⟨⟨k, rq, wh, sc, mk, pr, am, nu⟩, f, hp⟩ : ∃ p f, decS (strOfNums l) = (p, f) := ⟨_, _, rfl⟩
  refine ⟨k, rq, wh, sc, mk, pr, am, nu, f, by rw [hp], fun W A c hW hC => ?_⟩
  have := wire_Decode.calls A c l W hW hC hl
  rw [hp] at this
  exact this
def sg (y : Int) : Bool := decide (y < 45) || decide (122 < y) || (decide (57 < y) && decide (y < 65)) || (decide (90 < y) && decide (y < 97)) || y == 46 || y == 47
theorem sg_all : ∀ n : Fin 256, sg (n.val : Int) = !isSign (UInt8.ofNat n.val) := by decide +kernel
theorem sg_sign {y : Int} (h0 : 0 ≤ y) (h1 : y ≤ 255) (h : sg y = true) : isSign (UInt8.ofNat y.toNat) = false := by
  have := sg_all ⟨y.toNat, by omega⟩
  simp only [Int.toNat_of_nonneg h0] at this
  rw [h] at this
  simpa using this.symm
theorem nums_data (l : List Int) : (strOfNums l).data.toList = l.map fun n => UInt8.ofNat n.toNat := by simp [strOfNums]
theorem nums_bytes (s : ByteArray) : (bytesOf s).map (fun n => UInt8.ofNat n.toNat) = s.data.toList := by simp [bytesOf, List.map_map, Function.comp_def]
section
variable {k : Int} {rq wh sc mk : ByteArray} {pr am nu : Int}
theorem strict_a (_h : okCmd k rq wh sc mk pr am nu = true) {y : Int} (h0 : 0 ≤ y) (h1 : y ≤ 255) (hy : sg y = true) (E : ByteArray) : (decS (strOfNums (bytesOf E ++ [y]))).2 = 200 := by
  rcases dec_ok (strOfNums (bytesOf E ++ [y])) with ⟨_, e2, e3, e4⟩ | ⟨e1, _⟩
  · exfalso
    obtain ⟨l, b, e, hb⟩ := text_last e2 e4 7 (Nat.le_refl _)
    have e3' : (encB (decS (strOfNums (bytesOf E ++ [y]))).1.k (decS (strOfNums (bytesOf E ++ [y]))).1.rq (decS (strOfNums (bytesOf E ++ [y]))).1.wh (decS (strOfNums (bytesOf E ++ [y]))).1.sc (decS (strOfNums (bytesOf E ++ [y]))).1.mk' (decS (strOfNums (bytesOf E ++ [y]))).1.pr (decS (strOfNums (bytesOf E ++ [y]))).1.am (decS (strOfNums (bytesOf E ++ [y]))).1.nu).data.toList = l ++ [b] := e
    have e5 := congrArg (fun s : ByteArray => s.data.toList) e3
    simp only [Cmd.enc] at e5
    rw [e3', nums_data, List.map_append, List.map_cons, List.map_nil] at e5
    have := (List.append_inj' e5 rfl).2
    rw [List.cons.injEq] at this
    rw [this.1, sg_sign h0 h1 hy] at hb
    cases hb
  · exact e1
theorem strict_b {y : Int} (h0 : 0 ≤ y) (h1 : y ≤ 255) (hy : sg y = true) (E : ByteArray) : (decS (strOfNums ([y] ++ bytesOf E))).2 = 200 := by
  rcases dec_ok (strOfNums ([y] ++ bytesOf E)) with ⟨_, e2, e3, _⟩ | ⟨e1, _⟩
  · exfalso
    obtain ⟨b, l, e, hb⟩ := enc_head e2
    have e5 := congrArg (fun s : ByteArray => s.data.toList) e3
    simp only [Cmd.enc] at e5
    rw [e, nums_data, List.map_append, List.map_cons, List.map_nil] at e5
    have := (List.cons.inj e5).1
    rw [this, sg_sign h0 h1 hy] at hb
    cases hb
  · exact e1
theorem firsts_tails : ∀ i : Fin 14, ∀ j : Fin 14, i.val ≠ 0 → j.val ≠ 0 → ((firsts.getD i.val ByteArray.empty).data.toList == (firsts.getD j.val ByteArray.empty).data.toList.drop 1) = false := by decide +kernel
theorem strict_c (h : okCmd k rq wh sc mk pr am nu = true) (h7 : 0 ≤ nu) : (decS (strOfNums ((bytesOf (encB k rq wh sc mk pr am nu)).drop 1))).2 = 200 := by
  rcases dec_ok (strOfNums ((bytesOf (encB k rq wh sc mk pr am nu)).drop 1)) with ⟨_, e2, e3, e4⟩ | ⟨e1, _⟩
  · exfalso
    have hs := split_enc e2 e4
    have e3' : encB _ _ _ _ _ _ _ _ = strOfNums ((bytesOf (encB k rq wh sc mk pr am nu)).drop 1) := e3
    rw [e3'] at hs
    have hd := congrArg (fun l : List ByteArray => l.map (·.data.toList)) hs
    simp only [List.map_cons] at hd
    have hc : (splitOn (strOfNums ((bytesOf (encB k rq wh sc mk pr am nu)).drop 1)) 32).map (·.data.toList) = cutAt 32 ((encB k rq wh sc mk pr am nu).data.toList.drop 1) := by
      rw [show (splitOn (strOfNums ((bytesOf (encB k rq wh sc mk pr am nu)).drop 1)) 32).map (·.data.toList) = cutAt 32 (strOfNums ((bytesOf (encB k rq wh sc mk pr am nu)).drop 1)).data.toList from by simp [splitOn, List.map_map, Function.comp_def], nums_data, List.map_drop, nums_bytes]
    rw [hc] at hd
    obtain ⟨g1, g2, _⟩ := first_good (ok_parts h).1
    have hz := size_len (firstOf k)
    unfold encB at hd
    rw [enc_join, List.drop_append_of_le_length (by omega), cut_join _ _ (fun c hc => sign_ne (g1 c (List.mem_of_mem_drop hc))) (fun y hy c hc => by
      obtain ⟨s, hs, rfl⟩ := List.mem_map.1 hy
      exact sign_ne (words_good h h7 (Nat.le_refl _) s hs c hc))] at hd
    have h1 := (List.cons.inj hd).1
    have k1 := (ok_parts h).1
    have k2 := (ok_parts e2).1
    have := firsts_tails ⟨(decS (strOfNums ((bytesOf (encB k rq wh sc mk pr am nu)).drop 1))).1.k.toNat, by omega⟩ ⟨k.toNat, by omega⟩ (by simp only; omega) (by simp only; omega)
    rw [beq_eq_false_iff_ne] at this
    exact this h1.symm
  · exact e1
end
set_option maxHeartbeats 16000000 in
set_option maxRecDepth 100000 in
set_option linter.unusedSimpArgs false in
set_option linter.unusedVariables false in
theorem wireStrict_true (w : World) (k : Int) (rq wh sc mk : ByteArray) (pr am nu : Int) (h7 : 0 ≤ nu) (y : Int) (hg : (Lit.int .u8 y).wf = true) (hG : Glob w) : Calls Tryd.prog 6 #[.agg #[.int .i64 k, .string rq, .string wh, .string sc, .string mk, .int .i64 pr, .int .i64 am, .int .u64 nu], .int .u8 y] w fun e w' => e = .returned (.bool true) ∧ Below w.heap.size w w' := by
  have HA : Hid (∀ W, Glob W → Calls Tryd.prog 9 #[] W fun e w' => e = .returned (.bool true) ∧ Below W.heap.size W w') := Lib.hid fun W hW => awake_calls W hW
  obtain ⟨fw, hfw⟩ : ∃ b, fwB rq wh sc mk = b := ⟨_, rfl⟩
  have HF : Hid (∀ W, Glob W → Calls Tryd.prog 10 #[.agg #[.int .i64 k, .string rq, .string wh, .string sc, .string mk, .int .i64 pr, .int .i64 am, .int .u64 nu]] W fun e w' => e = .returned (.bool fw) ∧ Below W.heap.size W w') := Lib.hid fun W hW => by rw [← hfw]; exact few_calls k rq wh sc mk pr am nu W hW
  have hci := CI.start (cs := #[.int .i64 k, .string rq, .string wh, .string sc, .string mk, .int .i64 pr, .int .i64 am, .int .u64 nu]) hG
  clear hG
  obtain ⟨y0, y1⟩ : 0 ≤ y ∧ y ≤ 255 := by unfold Lit.wf at hg; simp only [Bool.and_eq_true, decide_eq_true_eq] at hg; exact hg
  clear hg
  cases fw with
  | false =>
    clear hfw h7 y0 y1
    go_enter Tryd.func6, Tryd.ntmps6
    go_wp2_with (first | (go_at_call 9; (with_reducible refine call_ci (w := w) (cs := #[.int .i64 k, .string rq, .string wh, .string sc, .string mk, .int .i64 pr, .int .i64 am, .int .u64 nu]) HA.out ?side1 ?_); (case side1 => (first | exact hci | exact hci.step (below_alloc (Below.refl _ _) _) | exact hci.step (below_alloc (below_alloc (Below.refl _ _) _) _) | exact hci.step (below_drew1 (Below.refl _ _)))); intro w2 hci2; (have hci3 := hci2; clear hci2 hci; have hci := hci3; clear hci3; have c0_ := blk_cell hci.blk 0; have c1_ := blk_cell hci.blk 1; have c2_ := blk_cell hci.blk 2; have c3_ := blk_cell hci.blk 3; have c4_ := blk_cell hci.blk 4; have c5_ := blk_cell hci.blk 5; have c6_ := blk_cell hci.blk 6; have c7_ := blk_cell hci.blk 7; have b0_ := fun o => blk_cell (blk_alloc hci.blk o) 0; have b1_ := fun o => blk_cell (blk_alloc hci.blk o) 1; have b2_ := fun o => blk_cell (blk_alloc hci.blk o) 2; have b3_ := fun o => blk_cell (blk_alloc hci.blk o) 3; have b4_ := fun o => blk_cell (blk_alloc hci.blk o) 4; have b5_ := fun o => blk_cell (blk_alloc hci.blk o) 5; have b6_ := fun o => blk_cell (blk_alloc hci.blk o) 6; have b7_ := fun o => blk_cell (blk_alloc hci.blk o) 7; simp only [List.getElem?_toArray, List.getElem?_cons_zero, List.getElem?_cons_succ] at c0_ b0_ c1_ b1_ c2_ b2_ c3_ b3_ c4_ b4_ c5_ b5_ c6_ b6_ c7_ b7_)) | (go_at_call 10; (with_reducible refine call_ci (w := w) (cs := #[.int .i64 k, .string rq, .string wh, .string sc, .string mk, .int .i64 pr, .int .i64 am, .int .u64 nu]) HF.out ?side1 ?_); (case side1 => (first | exact hci | exact hci.step (below_alloc (Below.refl _ _) _) | exact hci.step (below_alloc (below_alloc (Below.refl _ _) _) _) | exact hci.step (below_drew1 (Below.refl _ _)))); intro w2 hci2; (have hci3 := hci2; clear hci2 hci; have hci := hci3; clear hci3; have c0_ := blk_cell hci.blk 0; have c1_ := blk_cell hci.blk 1; have c2_ := blk_cell hci.blk 2; have c3_ := blk_cell hci.blk 3; have c4_ := blk_cell hci.blk 4; have c5_ := blk_cell hci.blk 5; have c6_ := blk_cell hci.blk 6; have c7_ := blk_cell hci.blk 7; have b0_ := fun o => blk_cell (blk_alloc hci.blk o) 0; have b1_ := fun o => blk_cell (blk_alloc hci.blk o) 1; have b2_ := fun o => blk_cell (blk_alloc hci.blk o) 2; have b3_ := fun o => blk_cell (blk_alloc hci.blk o) 3; have b4_ := fun o => blk_cell (blk_alloc hci.blk o) 4; have b5_ := fun o => blk_cell (blk_alloc hci.blk o) 5; have b6_ := fun o => blk_cell (blk_alloc hci.blk o) 6; have b7_ := fun o => blk_cell (blk_alloc hci.blk o) 7; simp only [List.getElem?_toArray, List.getElem?_cons_zero, List.getElem?_cons_succ] at c0_ b0_ c1_ b1_ c2_ b2_ c3_ b3_ c4_ b4_ c5_ b5_ c6_ b6_ c7_ b7_)))
    go_ret
    exact ⟨rfl, by first | exact hci.below | exact (hci.step (below_alloc (Below.refl _ _) _)).below⟩
  | true =>
    have hs := few_S hfw
    obtain ⟨ok, hok⟩ : ∃ b, okCmd k rq wh sc mk pr am nu = b := ⟨_, rfl⟩
    obtain ⟨E, hE⟩ : ∃ x : ByteArray, (if ok then encB k rq wh sc mk pr am nu else ⟨#[]⟩) = x := ⟨_, rfl⟩
    obtain ⟨er, her⟩ : ∃ x : Int, (if ok then 0 else 200) = x := ⟨_, rfl⟩
    have HE : Hid (∀ W, Glob W → Calls Tryd.prog 11 #[.agg #[.int .i64 k, .string rq, .string wh, .string sc, .string mk, .int .i64 pr, .int .i64 am, .int .u64 nu]] W (EncRet W E er)) := Lib.hid fun W hW => by
      have := wire_Encode.calls k rq wh sc mk pr am nu W hW hs h7
      rw [hok, hE, her] at this
      exact this
    have HK : Hid (∀ W, Glob W → Calls Tryd.prog 15 #[.agg #[.int .i64 k, .string rq, .string wh, .string sc, .string mk, .int .i64 pr, .int .i64 am, .int .u64 nu]] W fun e w' => e = .returned (.int .i64 er) ∧ Below W.heap.size W w') := Lib.hid fun W hW => by rw [← her, ← hok]; exact wire_Check.calls k rq wh sc mk pr am nu _ W hW (by unfold wire_Check.f; rw [if_pos hs])
    cases ok with
    | false =>
      have her' : er = 200 := her.symm
      subst her'
      clear hE her hok hs h7 hfw y0 y1
      go_enter Tryd.func6, Tryd.ntmps6
      go_wp2_with (first | (go_at_call 9; (with_reducible refine call_ci (w := w) (cs := #[.int .i64 k, .string rq, .string wh, .string sc, .string mk, .int .i64 pr, .int .i64 am, .int .u64 nu]) HA.out ?side1 ?_); (case side1 => (first | exact hci | exact hci.step (below_alloc (Below.refl _ _) _) | exact hci.step (below_alloc (below_alloc (Below.refl _ _) _) _) | exact hci.step (below_drew1 (Below.refl _ _)))); intro w2 hci2; (have hci3 := hci2; clear hci2 hci; have hci := hci3; clear hci3; have c0_ := blk_cell hci.blk 0; have c1_ := blk_cell hci.blk 1; have c2_ := blk_cell hci.blk 2; have c3_ := blk_cell hci.blk 3; have c4_ := blk_cell hci.blk 4; have c5_ := blk_cell hci.blk 5; have c6_ := blk_cell hci.blk 6; have c7_ := blk_cell hci.blk 7; have b0_ := fun o => blk_cell (blk_alloc hci.blk o) 0; have b1_ := fun o => blk_cell (blk_alloc hci.blk o) 1; have b2_ := fun o => blk_cell (blk_alloc hci.blk o) 2; have b3_ := fun o => blk_cell (blk_alloc hci.blk o) 3; have b4_ := fun o => blk_cell (blk_alloc hci.blk o) 4; have b5_ := fun o => blk_cell (blk_alloc hci.blk o) 5; have b6_ := fun o => blk_cell (blk_alloc hci.blk o) 6; have b7_ := fun o => blk_cell (blk_alloc hci.blk o) 7; simp only [List.getElem?_toArray, List.getElem?_cons_zero, List.getElem?_cons_succ] at c0_ b0_ c1_ b1_ c2_ b2_ c3_ b3_ c4_ b4_ c5_ b5_ c6_ b6_ c7_ b7_)) | (go_at_call 10; (with_reducible refine call_ci (w := w) (cs := #[.int .i64 k, .string rq, .string wh, .string sc, .string mk, .int .i64 pr, .int .i64 am, .int .u64 nu]) HF.out ?side1 ?_); (case side1 => (first | exact hci | exact hci.step (below_alloc (Below.refl _ _) _) | exact hci.step (below_alloc (below_alloc (Below.refl _ _) _) _) | exact hci.step (below_drew1 (Below.refl _ _)))); intro w2 hci2; (have hci3 := hci2; clear hci2 hci; have hci := hci3; clear hci3; have c0_ := blk_cell hci.blk 0; have c1_ := blk_cell hci.blk 1; have c2_ := blk_cell hci.blk 2; have c3_ := blk_cell hci.blk 3; have c4_ := blk_cell hci.blk 4; have c5_ := blk_cell hci.blk 5; have c6_ := blk_cell hci.blk 6; have c7_ := blk_cell hci.blk 7; have b0_ := fun o => blk_cell (blk_alloc hci.blk o) 0; have b1_ := fun o => blk_cell (blk_alloc hci.blk o) 1; have b2_ := fun o => blk_cell (blk_alloc hci.blk o) 2; have b3_ := fun o => blk_cell (blk_alloc hci.blk o) 3; have b4_ := fun o => blk_cell (blk_alloc hci.blk o) 4; have b5_ := fun o => blk_cell (blk_alloc hci.blk o) 5; have b6_ := fun o => blk_cell (blk_alloc hci.blk o) 6; have b7_ := fun o => blk_cell (blk_alloc hci.blk o) 7; simp only [List.getElem?_toArray, List.getElem?_cons_zero, List.getElem?_cons_succ] at c0_ b0_ c1_ b1_ c2_ b2_ c3_ b3_ c4_ b4_ c5_ b5_ c6_ b6_ c7_ b7_)) | (go_at_call 11; (with_reducible refine call_enc (w := w) (cs := #[.int .i64 k, .string rq, .string wh, .string sc, .string mk, .int .i64 pr, .int .i64 am, .int .u64 nu]) HE.out ?side1 ?_); (case side1 => (first | exact hci | exact hci.step (below_alloc (Below.refl _ _) _) | exact hci.step (below_alloc (below_alloc (Below.refl _ _) _) _) | exact hci.step (below_drew1 (Below.refl _ _)))); intro A c w2 hci2 HC; (have HCx := fun W (hb : Below w2.heap.size w2 W) => Lib.hid (Kd.C_below HC hb)); clear HC; (have hci3 := hci2; clear hci2 hci; have hci := hci3; clear hci3; have c0_ := blk_cell hci.blk 0; have c1_ := blk_cell hci.blk 1; have c2_ := blk_cell hci.blk 2; have c3_ := blk_cell hci.blk 3; have c4_ := blk_cell hci.blk 4; have c5_ := blk_cell hci.blk 5; have c6_ := blk_cell hci.blk 6; have c7_ := blk_cell hci.blk 7; have b0_ := fun o => blk_cell (blk_alloc hci.blk o) 0; have b1_ := fun o => blk_cell (blk_alloc hci.blk o) 1; have b2_ := fun o => blk_cell (blk_alloc hci.blk o) 2; have b3_ := fun o => blk_cell (blk_alloc hci.blk o) 3; have b4_ := fun o => blk_cell (blk_alloc hci.blk o) 4; have b5_ := fun o => blk_cell (blk_alloc hci.blk o) 5; have b6_ := fun o => blk_cell (blk_alloc hci.blk o) 6; have b7_ := fun o => blk_cell (blk_alloc hci.blk o) 7; simp only [List.getElem?_toArray, List.getElem?_cons_zero, List.getElem?_cons_succ] at c0_ b0_ c1_ b1_ c2_ b2_ c3_ b3_ c4_ b4_ c5_ b5_ c6_ b6_ c7_ b7_)))
      go_ret
      exact ⟨rfl, by first | exact hci.below | exact (hci.step (below_alloc (Below.refl _ _) _)).below⟩
    | true =>
      have her' : er = 0 := her.symm
      subst her'
      have hE' : encB k rq wh sc mk pr am nu = E := hE
      have hez : E.size ≤ 80 := by rw [← hE']; exact enc_size hok h7
      have hne : 1 ≤ E.size := by obtain ⟨b, l, e, _⟩ := enc_head hok; rw [hE'] at e; have := size_len E; rw [e] at this; simp only [List.length_cons] at this; omega
      have hl0 : (((bytesOf E).length : Int) == 0) = false := by rw [bytesOf_length, beq_eq_false_iff_ne]; omega
      have HLE : Hid ((bytesOf E).length ≤ 80) := Lib.hid (by rw [bytesOf_length]; exact hez)
      have HLN : Hid (1 ≤ (bytesOf E).length) := Lib.hid (by rw [bytesOf_length]; exact hne)
      obtain ⟨k1, rq1, wh1, sc1, mk1, pr1, am1, nu1, fa, ha, HDA⟩ := dec_any (bytesOf E ++ [y]) (by rw [List.length_append, bytesOf_length, List.length_singleton]; omega)
      obtain ⟨k2, rq2, wh2, sc2, mk2, pr2, am2, nu2, fb, hb, HDB⟩ := dec_any ([y] ++ bytesOf E) (by rw [List.length_append, bytesOf_length, List.length_singleton]; omega)
      obtain ⟨k3, rq3, wh3, sc3, mk3, pr3, am3, nu3, fc, hc, HDC⟩ := dec_any ((bytesOf E).drop 1) (by rw [List.length_drop, bytesOf_length]; omega)
      have h3 : fc = 200 := by rw [← hc, ← hE']; exact strict_c hok h7
      subst h3
      obtain ⟨sb, hsb⟩ : ∃ b, sg y = b := ⟨_, rfl⟩
      have HSB := Lib.hid hsb
      have hab : sb = false ∨ (fa = 200 ∧ fb = 200) := by
        cases sb with
        | false => exact .inl rfl
        | true => exact .inr ⟨by rw [← ha]; exact strict_a hok y0 y1 hsb E, by rw [← hb]; exact strict_b y0 y1 hsb E⟩
      have HAB := Lib.hid hab
      obtain ⟨la, hla⟩ : ∃ l, bytesOf E ++ [y] = l := ⟨_, rfl⟩
      obtain ⟨lb, hlb⟩ : ∃ l, [y] ++ bytesOf E = l := ⟨_, rfl⟩
      obtain ⟨ld, hld⟩ : ∃ l, (bytesOf E).drop 1 = l := ⟨_, rfl⟩
      rw [hla] at HDA; rw [hlb] at HDB; rw [hld] at HDC
      have HLA := Lib.hid hla; have HLB := Lib.hid hlb; have HLD := Lib.hid hld
      have HDA_ := Lib.hid HDA; have HDB_ := Lib.hid HDB; have HDC_ := Lib.hid HDC
      have HY := Lib.hid (And.intro y0 y1)
      clear hE her hok hs h7 hfw ha hb hc hsb hab hE' hez hne HDA HDB HDC y0 y1 hla hlb hld
      go_enter Tryd.func6, Tryd.ntmps6
      go_upto_region 7 with (first | (go_at_call 9; (with_reducible refine call_ci (w := w) (cs := #[.int .i64 k, .string rq, .string wh, .string sc, .string mk, .int .i64 pr, .int .i64 am, .int .u64 nu]) HA.out ?side1 ?_); (case side1 => (first | exact hci | exact hci.step (below_alloc (Below.refl _ _) _) | exact hci.step (below_alloc (below_alloc (Below.refl _ _) _) _) | exact hci.step (below_drew1 (Below.refl _ _)))); intro w2 hci2; (have hci3 := hci2; clear hci2 hci; have hci := hci3; clear hci3; have c0_ := blk_cell hci.blk 0; have c1_ := blk_cell hci.blk 1; have c2_ := blk_cell hci.blk 2; have c3_ := blk_cell hci.blk 3; have c4_ := blk_cell hci.blk 4; have c5_ := blk_cell hci.blk 5; have c6_ := blk_cell hci.blk 6; have c7_ := blk_cell hci.blk 7; have b0_ := fun o => blk_cell (blk_alloc hci.blk o) 0; have b1_ := fun o => blk_cell (blk_alloc hci.blk o) 1; have b2_ := fun o => blk_cell (blk_alloc hci.blk o) 2; have b3_ := fun o => blk_cell (blk_alloc hci.blk o) 3; have b4_ := fun o => blk_cell (blk_alloc hci.blk o) 4; have b5_ := fun o => blk_cell (blk_alloc hci.blk o) 5; have b6_ := fun o => blk_cell (blk_alloc hci.blk o) 6; have b7_ := fun o => blk_cell (blk_alloc hci.blk o) 7; simp only [List.getElem?_toArray, List.getElem?_cons_zero, List.getElem?_cons_succ] at c0_ b0_ c1_ b1_ c2_ b2_ c3_ b3_ c4_ b4_ c5_ b5_ c6_ b6_ c7_ b7_)) | (go_at_call 10; (with_reducible refine call_ci (w := w) (cs := #[.int .i64 k, .string rq, .string wh, .string sc, .string mk, .int .i64 pr, .int .i64 am, .int .u64 nu]) HF.out ?side1 ?_); (case side1 => (first | exact hci | exact hci.step (below_alloc (Below.refl _ _) _) | exact hci.step (below_alloc (below_alloc (Below.refl _ _) _) _) | exact hci.step (below_drew1 (Below.refl _ _)))); intro w2 hci2; (have hci3 := hci2; clear hci2 hci; have hci := hci3; clear hci3; have c0_ := blk_cell hci.blk 0; have c1_ := blk_cell hci.blk 1; have c2_ := blk_cell hci.blk 2; have c3_ := blk_cell hci.blk 3; have c4_ := blk_cell hci.blk 4; have c5_ := blk_cell hci.blk 5; have c6_ := blk_cell hci.blk 6; have c7_ := blk_cell hci.blk 7; have b0_ := fun o => blk_cell (blk_alloc hci.blk o) 0; have b1_ := fun o => blk_cell (blk_alloc hci.blk o) 1; have b2_ := fun o => blk_cell (blk_alloc hci.blk o) 2; have b3_ := fun o => blk_cell (blk_alloc hci.blk o) 3; have b4_ := fun o => blk_cell (blk_alloc hci.blk o) 4; have b5_ := fun o => blk_cell (blk_alloc hci.blk o) 5; have b6_ := fun o => blk_cell (blk_alloc hci.blk o) 6; have b7_ := fun o => blk_cell (blk_alloc hci.blk o) 7; simp only [List.getElem?_toArray, List.getElem?_cons_zero, List.getElem?_cons_succ] at c0_ b0_ c1_ b1_ c2_ b2_ c3_ b3_ c4_ b4_ c5_ b5_ c6_ b6_ c7_ b7_)) | (go_at_call 11; (with_reducible refine call_encc (w := w) (cs := #[.int .i64 k, .string rq, .string wh, .string sc, .string mk, .int .i64 pr, .int .i64 am, .int .u64 nu]) HE.out ?side1 ?_); (case side1 => (first | exact hci | exact hci.step (below_alloc (Below.refl _ _) _) | exact hci.step (below_alloc (below_alloc (Below.refl _ _) _) _) | exact hci.step (below_drew1 (Below.refl _ _)))); intro A c w2 hci2 hcap HC; (have HCx := fun W (hb : Below w2.heap.size w2 W) => Lib.hid (Kd.C_below HC hb)); (have HCAP := Lib.hid hcap); clear HC hcap; (have hci3 := hci2; clear hci2 hci; have hci := hci3; clear hci3)))
      clear HA HF HE HK
      go_cut [8] (fun v8 wc => v8 = .bool sb ∧ w2 = wc)
      case first =>
        have y0 := HY.out.1; have y1 := HY.out.2
        have hv : (y < 45) ∨ (y = 45) ∨ (y = 46) ∨ (y = 47) ∨ (48 ≤ y ∧ y ≤ 57) ∨ (58 ≤ y ∧ y ≤ 64) ∨ (65 ≤ y ∧ y ≤ 90) ∨ (91 ≤ y ∧ y ≤ 96) ∨ (97 ≤ y ∧ y ≤ 122) ∨ (123 ≤ y) := by omega
        clear y0 y1 hl0
        rcases hv with hv | hv | hv | hv | hv | hv | hv | hv | hv | hv
        · skip
          have ta : decide (y < 45) = true := decide_eq_true (by omega)
          have tb : decide (122 < y) = false := decide_eq_false (by omega)
          have tc : decide (57 < y) = false := decide_eq_false (by omega)
          have td : decide (y < 65) = true := decide_eq_true (by omega)
          have te : decide (90 < y) = false := decide_eq_false (by omega)
          have tf : decide (y < 97) = true := decide_eq_true (by omega)
          have tg : (y == 46) = false := beq_eq_false_iff_ne.2 (by omega)
          have th : (y == 47) = false := beq_eq_false_iff_ne.2 (by omega)
          have hsb : sb = true := by rw [← HSB.out]; unfold sg; rw [ta, tb, tc, td, te, tf, tg, th]; rfl
          subst hsb
          clear hv
          go_wp2
          go_meet
          case rel => exact ⟨rfl, rfl⟩
        · skip
          have hy : y = 45 := hv
          subst hy
          have hsb : sb = false := by rw [← HSB.out]; decide
          subst hsb
          go_wp2
          go_meet
          case rel => exact ⟨rfl, rfl⟩
        · skip
          have hy : y = 46 := hv
          subst hy
          have hsb : sb = true := by rw [← HSB.out]; decide
          subst hsb
          go_wp2
          go_meet
          case rel => exact ⟨rfl, rfl⟩
        · skip
          have hy : y = 47 := hv
          subst hy
          have hsb : sb = true := by rw [← HSB.out]; decide
          subst hsb
          go_wp2
          go_meet
          case rel => exact ⟨rfl, rfl⟩
        · skip
          have ta : decide (y < 45) = false := decide_eq_false (by omega)
          have tb : decide (122 < y) = false := decide_eq_false (by omega)
          have tc : decide (57 < y) = false := decide_eq_false (by omega)
          have td : decide (y < 65) = true := decide_eq_true (by omega)
          have te : decide (90 < y) = false := decide_eq_false (by omega)
          have tf : decide (y < 97) = true := decide_eq_true (by omega)
          have tg : (y == 46) = false := beq_eq_false_iff_ne.2 (by omega)
          have th : (y == 47) = false := beq_eq_false_iff_ne.2 (by omega)
          have hsb : sb = false := by rw [← HSB.out]; unfold sg; rw [ta, tb, tc, td, te, tf, tg, th]; rfl
          subst hsb
          clear hv
          go_wp2
          go_meet
          case rel => exact ⟨rfl, rfl⟩
        · skip
          have ta : decide (y < 45) = false := decide_eq_false (by omega)
          have tb : decide (122 < y) = false := decide_eq_false (by omega)
          have tc : decide (57 < y) = true := decide_eq_true (by omega)
          have td : decide (y < 65) = true := decide_eq_true (by omega)
          have te : decide (90 < y) = false := decide_eq_false (by omega)
          have tf : decide (y < 97) = true := decide_eq_true (by omega)
          have tg : (y == 46) = false := beq_eq_false_iff_ne.2 (by omega)
          have th : (y == 47) = false := beq_eq_false_iff_ne.2 (by omega)
          have hsb : sb = true := by rw [← HSB.out]; unfold sg; rw [ta, tb, tc, td, te, tf, tg, th]; rfl
          subst hsb
          clear hv
          go_wp2
          go_meet
          case rel => exact ⟨rfl, rfl⟩
        · skip
          have ta : decide (y < 45) = false := decide_eq_false (by omega)
          have tb : decide (122 < y) = false := decide_eq_false (by omega)
          have tc : decide (57 < y) = true := decide_eq_true (by omega)
          have td : decide (y < 65) = false := decide_eq_false (by omega)
          have te : decide (90 < y) = false := decide_eq_false (by omega)
          have tf : decide (y < 97) = true := decide_eq_true (by omega)
          have tg : (y == 46) = false := beq_eq_false_iff_ne.2 (by omega)
          have th : (y == 47) = false := beq_eq_false_iff_ne.2 (by omega)
          have hsb : sb = false := by rw [← HSB.out]; unfold sg; rw [ta, tb, tc, td, te, tf, tg, th]; rfl
          subst hsb
          clear hv
          go_wp2
          go_meet
          case rel => exact ⟨rfl, rfl⟩
        · skip
          have ta : decide (y < 45) = false := decide_eq_false (by omega)
          have tb : decide (122 < y) = false := decide_eq_false (by omega)
          have tc : decide (57 < y) = true := decide_eq_true (by omega)
          have td : decide (y < 65) = false := decide_eq_false (by omega)
          have te : decide (90 < y) = true := decide_eq_true (by omega)
          have tf : decide (y < 97) = true := decide_eq_true (by omega)
          have tg : (y == 46) = false := beq_eq_false_iff_ne.2 (by omega)
          have th : (y == 47) = false := beq_eq_false_iff_ne.2 (by omega)
          have hsb : sb = true := by rw [← HSB.out]; unfold sg; rw [ta, tb, tc, td, te, tf, tg, th]; rfl
          subst hsb
          clear hv
          go_wp2
          go_meet
          case rel => exact ⟨rfl, rfl⟩
        · skip
          have ta : decide (y < 45) = false := decide_eq_false (by omega)
          have tb : decide (122 < y) = false := decide_eq_false (by omega)
          have tc : decide (57 < y) = true := decide_eq_true (by omega)
          have td : decide (y < 65) = false := decide_eq_false (by omega)
          have te : decide (90 < y) = true := decide_eq_true (by omega)
          have tf : decide (y < 97) = false := decide_eq_false (by omega)
          have tg : (y == 46) = false := beq_eq_false_iff_ne.2 (by omega)
          have th : (y == 47) = false := beq_eq_false_iff_ne.2 (by omega)
          have hsb : sb = false := by rw [← HSB.out]; unfold sg; rw [ta, tb, tc, td, te, tf, tg, th]; rfl
          subst hsb
          clear hv
          go_wp2
          go_meet
          case rel => exact ⟨rfl, rfl⟩
        · skip
          have ta : decide (y < 45) = false := decide_eq_false (by omega)
          have tb : decide (122 < y) = true := decide_eq_true (by omega)
          have tc : decide (57 < y) = true := decide_eq_true (by omega)
          have td : decide (y < 65) = false := decide_eq_false (by omega)
          have te : decide (90 < y) = true := decide_eq_true (by omega)
          have tf : decide (y < 97) = false := decide_eq_false (by omega)
          have tg : (y == 46) = false := beq_eq_false_iff_ne.2 (by omega)
          have th : (y == 47) = false := beq_eq_false_iff_ne.2 (by omega)
          have hsb : sb = true := by rw [← HSB.out]; unfold sg; rw [ta, tb, tc, td, te, tf, tg, th]; rfl
          subst hsb
          clear hv
          go_wp2
          go_meet
          case rel => exact ⟨rfl, rfl⟩
      case rest =>
        obtain ⟨rfl, rfl⟩ := hcut
        have HCI := Lib.hid hci; clear hci
        clear HSB HY
        have HCy := HCx
        go_upto_region 8 with (fail)
        go_cut [10] (fun v10 wc => v10 = .int .i64 fa ∧ Hid (CI w #[.int .i64 k, .string rq, .string wh, .string sc, .string mk, .int .i64 pr, .int .i64 am, .int .u64 nu] wc) ∧ Hid (Below w2.heap.size w2 wc))
        case first =>
          go_wp2_with (first | ((with_reducible refine gate_builtin (b := .append) (xs := #[.tmp 68, .tmp 69]) rfl ?_); at_builtin; refine Kd.R_append_rows (Kd.int .u8) (w0 := w2) w2.heap.size rfl (.tmp 68) (.tmp 69) 26 5 (.int .u8 0) 1 rfl Tryd.underlying26 info5' rfl (by decide) (by omega) _ ([] : List Int) (bytesOf E) _ _ _ (fun _ => True) (fun _ => False) rfl rfl ?aO ?aR (fun _ _ h => h) (fun _ h => h.elim) ?aF ?aB ?aS ?aL ?_; (case aR => exact (HCy _ (below_alloc (Below.refl _ _) _)).out); (case aF => exact (fun _ _ => trivial)); (case aO => exact Kd.R_of_own (h1 := fun _ => rfl) (own_lit_of (enc := Value.int .u8) w2 w2.heap.size 5 ([] : List Int) (Nat.le_refl _) (by show _ ≤ _; simp)) (fun _ _ => trivial)); (case aB => exact below_alloc (Below.refl _ _) _); (case aS => exact (below_alloc (Below.refl w2.heap.size w2) _).size); (case aL => have := HLE.out; simp only [List.length_nil, List.length_cons]; omega); intro v1 w3 ho hb hg hat; rw [List.nil_append] at ho; have HO1 := Lib.hid ho; have HB1 := Lib.hid hb; clear ho hb hg hat) | ((with_reducible refine gate_builtin (b := .append) (xs := #[.tmp 70, .tmp 72]) rfl ?_); at_builtin; refine Kd.R_append (Kd.int .u8) (w0 := w2) w2.heap.size rfl (.tmp 70) (.tmp 72) 26 5 (.int .u8 0) 1 rfl Tryd.underlying26 info5' rfl (by decide) (by omega) v1 (bytesOf E) y [.int .u8 y] (fun _ => True) (fun _ => False) rfl rfl ?aP (fun _ hk => hk.elim) ?aF ?aO ?aB ?aS ?aL ?_; (case aP => exact rfl); (case aB => exact HB1.out); (case aF => exact (fun _ _ => trivial)); (case aO => exact HO1.out); (case aS => exact HB1.out.size); (case aL => have := HLE.out; omega); intro v2 w4 ho hb hg hat; rw [HLA.out] at ho; obtain ⟨A2, c2, rfl, hl2, hC2⟩ := Kd.R_reads ho; have HC2 := Lib.hid hC2; have HB2 := Lib.hid hb; clear ho hb hg hat hl2 hC2) | (go_at_call 13; (with_reducible refine (HDA_.out _ _ _ (HCI.out.step HB2.out).glob HC2.out).mono ?_); rintro e w5 ⟨rfl, hb⟩; have HCI2 := Lib.hid ((HCI.out.step HB2.out).step hb); have HBD := Lib.hid (below_then HB2.out HB2.out.size hb); clear hb))
          go_meet
          case rel => exact ⟨rfl, Lib.hid (HCI2.out.step (below_alloc (Below.refl _ _) _)), Lib.hid (below_alloc HBD.out _)⟩
        case rest =>
          clear HCI HCy HDA_
          obtain ⟨rfl, HCI, HBW⟩ := hcut
          have HCy := fun W (hb : Below wc.heap.size wc W) => HCx _ (below_then HBW.out HBW.out.size hb)
          go_upto_region 9 with (fail)
          go_cut [12] (fun v12 wd => v12 = .int .i64 fb ∧ Hid (CI w #[.int .i64 k, .string rq, .string wh, .string sc, .string mk, .int .i64 pr, .int .i64 am, .int .u64 nu] wd) ∧ Hid (Below w2.heap.size w2 wd))
          case first =>
            go_wp2_with (first | ((with_reducible refine gate_builtin (b := .append) (xs := #[.tmp 79, .tmp 80]) rfl ?_); at_builtin; refine Kd.R_append_rows (Kd.int .u8) (w0 := wc) wc.heap.size rfl (.tmp 79) (.tmp 80) 26 5 (.int .u8 0) 1 rfl Tryd.underlying26 info5' rfl (by decide) (by omega) _ [y] (bytesOf E) _ _ _ (fun _ => True) (fun _ => False) rfl rfl ?aO ?aR (fun _ _ h => h) (fun _ h => h.elim) ?aF ?aB ?aS ?aL ?_; (case aR => exact (HCy _ (below_alloc (Below.refl _ _) _)).out); (case aF => exact (fun _ _ => trivial)); (case aO => exact Kd.R_of_own (h1 := fun _ => rfl) (own_lit_of (enc := Value.int .u8) wc wc.heap.size 5 [y] (Nat.le_refl _) (by show _ ≤ _; simp)) (fun _ _ => trivial)); (case aB => exact below_alloc (Below.refl _ _) _); (case aS => exact (below_alloc (Below.refl wc.heap.size wc) _).size); (case aL => have := HLE.out; simp only [List.length_nil, List.length_cons]; omega); intro v1 w3 ho hb hg hat; rw [HLB.out] at ho; obtain ⟨A2, c2, rfl, hl2, hC2⟩ := Kd.R_reads ho; have HC2 := Lib.hid hC2; have HB2 := Lib.hid hb; clear ho hb hg hat hl2 hC2) | (go_at_call 13; (with_reducible refine (HDB_.out _ _ _ (HCI.out.step HB2.out).glob HC2.out).mono ?_); rintro e w5 ⟨rfl, hb⟩; have HCI2 := Lib.hid ((HCI.out.step HB2.out).step hb); have HBD := Lib.hid (below_then HB2.out HB2.out.size hb); clear hb))
            go_meet
            case rel => exact ⟨rfl, Lib.hid (HCI2.out.step (below_alloc (Below.refl _ _) _)), Lib.hid (below_then HBW.out HBW.out.size (below_alloc HBD.out _))⟩
          case rest =>
            clear HCI HCy HDB_ HBW
            obtain ⟨rfl, HCI, HBW⟩ := hcut
            obtain ⟨i0, hi0, hi1, hi2, hi3⟩ := info_parts info5'
            have hcu := cut_from (P := Tryd.prog) 26 5 .i64 Tryd.underlying26 hi0 1 hi2 A (bytesOf E).length c 1 (by omega) (by have := HLN.out; omega)
            have hC1 := Kd.C_drop (m := 1) (HCx _ HBW.out).out HLN.out HCAP.out
            obtain ⟨A1, hA1⟩ : ∃ A1, (if c = 1 then A else A.map (·.add (1 * (Kd.int .u8).sz))) = A1 := ⟨_, rfl⟩
            rw [hA1, HLD.out] at hC1
            have hcu' : ∀ W, (Instr.slice 26 (.slice A (bytesOf E).length c) (some (.int .i64 1)) none none).run Tryd.prog W = .ok (.slice A1 ld.length (c - 1)) W := fun W => by rw [← hA1, ← HLD.out, List.length_drop]; exact hcu W
            have HC2 := Lib.hid hC1; clear hC1 hcu hA1 hi0 hi1 hi2 hi3
            cases sb with
            | true =>
              obtain ⟨rfl, rfl⟩ := HAB.out.resolve_left (by decide)
              go_wp2_with (go_at_call 13; (with_reducible refine (HDC_.out _ _ _ HCI.out.glob HC2.out).mono ?_); rintro e w5 ⟨rfl, hb⟩; have HCI2 := Lib.hid (HCI.out.step hb); clear hb)
              go_ret
              exact ⟨rfl, (HCI2.out.step (below_alloc (Below.refl _ _) _)).below⟩
            | false =>
              go_wp2_with (go_at_call 13; (with_reducible refine (HDC_.out _ _ _ HCI.out.glob HC2.out).mono ?_); rintro e w5 ⟨rfl, hb⟩; have HCI2 := Lib.hid (HCI.out.step hb); clear hb)
              go_ret
              exact ⟨rfl, (HCI2.out.step (below_alloc (Below.refl _ _) _)).below⟩
end Go.Proofs.YtdpdbmdnmgaeiaaDoor.E
