/- The walk of wire.Encode. -/
import Derived.Test.YtdpdbmdnmgaeiaaDoorEncSpec
import Derived.Test.YtdpdbmdnmgaeiaaDoorCheck
import Derived.Test.YtdpdbmdnmgaeiaaDoorUint
import Derived.Test.YtdpdbmdnmgaeiaaDoorPx4
import Derived.Laws.CopyOwn
import Derived.BigQuiet
import Derived.Deep.QuietTactic
namespace Go.Proofs.YtdpdbmdnmgaeiaaDoor.E
open Go.RowKit Go.Proofs.YtdpdbmdnmgaeiaaDoor.P Go.Proofs.YtdpdbmdnmgaeiaaDoorW.PrintWords Go.Proofs.YtdpdbmdnmgaeiaaDoorW.PrintLast
def enc4_T : Bool × List (List Nat × List Nat) := (true, [([], []), ([], []), ([1], [1]), ([0, 2], [0, 2]), ([3], [3]), ([4, 0, 0, 1, 2, 3, 4], [4])])
def enc4_B : List Nat := [0, 0, 2, 7, 15, 31]
theorem enc4_tab : rtab .any (opsOf Tryd.f11 4) = enc4_T := by kernel_rfl
theorem enc4_bits : waitsOk enc4_T.2 enc4_B = true := by kernel_rfl
def enc5_T : Bool × List (List Nat × List Nat) := (true, [([], []), ([0], [0]), ([], []), ([2], [2]), ([], []), ([4], [4]), ([], []), ([6], [6]), ([], []), ([8], [8]), ([9], [9]), ([], []), ([11], [11]), ([12, 10], [12]), ([], []), ([14], [14]), ([15, 13], [15]), ([1, 3, 5, 7, 10, 13, 16], [1, 3, 5, 7, 10, 13, 16]), ([], []), ([18, 17, 16, 0, 1, 2, 3, 4, 5, 6, 7, 8, 9, 10, 11, 12, 13, 14, 15, 16, 17, 18], [17, 18])])
def enc5_B : List Nat := [0, 1, 0, 4, 0, 16, 0, 64, 0, 256, 768, 0, 2048, 7936, 0, 16384, 65280, 131071, 0, 524287]
theorem enc5_tab : rtab .any (opsOf Tryd.f11 5) = enc5_T := by kernel_rfl
theorem enc5_bits : waitsOk enc5_T.2 enc5_B = true := by kernel_rfl
/-- A command lies where it was boxed, and a row of texts of the call's own. -/
structure CE (w : World) (cs : Array Value) (v : Value) (xs : List ByteArray) (W : World) : Prop where
  blk : W.heap[w.heap.size]? = some (.cells cs 25 (0, 0))
  below : Below w.heap.size w W
  g0 : Glob w
  row : Kd.R Kd.string 9 W w.heap.size (fun _ => True) v xs
theorem CE.glob {w W : World} {cs : Array Value} {v : Value} {xs : List ByteArray} (h : CE w cs v xs W) : Glob W := h.g0.below h.below
theorem CE.step {w W W' : World} {cs : Array Value} {v : Value} {xs : List ByteArray} (h : CE w cs v xs W) (hb : Below W.heap.size W W') : CE w cs v xs W' := ⟨blk_below h.blk hb, below_then h.below h.below.size hb, h.g0, Kd.R_below h.row hb⟩
theorem CE.setRow {w W : World} {cs cs' old : Array Value} {v : Value} {xs : List ByteArray} {g t : Nat} (h : CE w cs v xs W) (hg : W.heap[g]? = some (.cells old t (0, 0))) (hge : w.heap.size ≤ g) (h1 : t ≠ 25) (h2 : 9 ≠ t) : CE w cs v xs (W.setRow g cs') :=
  ⟨(setRow_other _ _ _ _ (blk_ne h.blk hg (Ne.symm h1))).trans h.blk, below_setRow h.below hge _, h.g0,
   Kd.R_mono (Kd.R_step (Kd.R_types h.row hg (fun q hq => by rcases List.mem_cons.1 hq with rfl | hq; exact h2; cases hq)) (fun k hk _ => setRow_other _ _ _ _ hk.2)) (fun _ hk => hk.1)⟩
theorem CE.grown {w W W1 : World} {cs : Array Value} {v v1 : Value} {xs xs1 : List ByteArray} (h : CE w cs v xs W) (hg : W.grownBy W1 v.ownBlock) (hb : Below w.heap.size w W1) (hr : Kd.R Kd.string 9 W1 w.heap.size (fun _ => True) v1 xs1) : CE w cs v1 xs1 W1 :=
  ⟨blk_grown h.blk hg (Kd.R_ne h.row h.blk (by decide)), hb, h.g0, hr⟩
theorem idx_first {a : Int} (h : 0 ≤ a ∧ a ≤ 13) (w : World) : (Instr.index 38 (.agg (firsts.map Value.string).toArray) (.int .i64 a)).run Tryd.prog w = .ok (.string (firstOf a)) w := by
  rcases kind_cases h with rfl | rfl | rfl | rfl | rfl | rfl | rfl | rfl | rfl | rfl | rfl | rfl | rfl | rfl <;> kernel_rfl
theorem mask_none {a : Int} (h : 0 ≤ a ∧ a ≤ 13) (i : Nat) (hi : i < 7) : (bits .and .i64 (maskOf a) ((2 ^ i : Nat) : Int) != 0) = hasW a i := by rw [bne, mask_test h i hi, Bool.not_not]
theorem alloc_step {P : Program} {ops : Array Oper} {Q : Exit → Act → World → Prop} {Kc : Act → World → Prop} {o : Oper} {a : Act} {W : World} {e : Nat} {cs : Array Value} (hw : Region.wanted o (yielded ops a.tmps) = true)
    (hrun : (execOp a.eval o).run P W = .ok (.value (.pointer (some ⟨W.heap.size, 0, none⟩))) (W.alloc (.cells cs e)))
    (h : Kc (a.put o.dst (.pointer (some ⟨W.heap.size, 0, none⟩))) (W.alloc (.cells cs e))) : if Region.wanted o (yielded ops a.tmps) = true then Oper.wp P o a W Kc Q else Kc (a.put o.dst undef) W :=
  event_step hw hrun h
theorem store_row_step {P : Program} {ops : Array Oper} {Q : Exit → Act → World → Prop} {K : Act → World → Prop} {o : Oper} {a : Act} {W : World} (hw : Region.wanted o (yielded ops a.tmps) = true) (hN : o.dst = none) {ty : TypeId} {x y : Operand} (ho : o.op = .store ty x y)
    (g : Nat) (hx : a.eval x = .pointer (some ⟨g, 0, none⟩)) (cells : Array Value) (hy : a.eval y = .agg cells) {t : TypeId} {old : Array Value} (hg : W.heap[g]? = some (.cells old t (0, 0))) (hi : (P.info? ty).map (·.size) = some cells.size)
    (hold : old.size = cells.size) (h1 : cells.all (·.oneCell') = true) (h : K a (W.setRow g cells)) : if Region.wanted o (yielded ops a.tmps) = true then Oper.wp P o a W K Q else K (a.put none undef) W := by
  refine skip_ hw hN ?_ h
  unfold execOp
  simp [ho, hx, hy, Instr.storeAt, Instr.sureAddr, run_storeVar_row W g t ty old cells hg hi hold h1]
/-- Bytes that are handed back to be read. -/
def EncRet (w : World) (b : ByteArray) (r : Int) (e : Ending) (w' : World) : Prop :=
  ∃ (A : Option Addr) (c : Nat), e = .returned (.tuple #[.slice A (bytesOf b).length c, .int .i64 r]) ∧ (bytesOf b).length ≤ c ∧ Kd.C (Kd.int .u8) w' A (bytesOf b).length (bytesOf b) ∧ Below w.heap.size w w'
def wd7 (a b c d e f g : ByteArray) : Nat → ByteArray
  | 0 => a
  | 1 => b
  | 2 => c
  | 3 => d
  | 4 => e
  | 5 => f
  | _ => g
theorem word_wd7 (rq wh sc mk : ByteArray) (pr am nu : Int) : ∀ n, wordOf rq wh sc mk pr am nu n = wd7 rq wh sc mk ⟨(intText pr).toArray⟩ ⟨(intText am).toArray⟩ ⟨(decText nu.toNat).toArray⟩ n
  | 0 => rfl
  | 1 => rfl
  | 2 => rfl
  | 3 => rfl
  | 4 => rfl
  | 5 => rfl
  | _ + 6 => rfl
theorem words_next (k : Int) (rq wh sc mk : ByteArray) (pr am nu : Int) (n : Nat) : wordsTo k rq wh sc mk pr am nu (n + 1) = wordsTo k rq wh sc mk pr am nu n ++ (if hasW k n then [wordOf rq wh sc mk pr am nu n] else []) := by
  unfold wordsTo
  rw [List.range_succ, List.filter_append, List.map_append, List.filter_cons]
  cases hasW k n <;> rfl
theorem joinTail_snoc (r : List (List UInt8)) (y : List UInt8) : Lib.joinTail [32] (r ++ [y]) = Lib.joinTail [32] r ++ (32 :: y) := by simp [Lib.joinTail]
theorem enc_join (k : Int) (rq wh sc mk : ByteArray) (pr am nu : Int) : ∀ n, (textTo k rq wh sc mk pr am nu n).data.toList = (firstOf k).data.toList ++ Lib.joinTail [32] ((wordsTo k rq wh sc mk pr am nu n).map (·.data.toList))
  | 0 => by simp [textTo, wordsTo, Lib.joinTail]
  | n + 1 => by
    have ih := enc_join k rq wh sc mk pr am nu n
    rw [words_next]
    unfold textTo
    cases hasW k n
    · simpa using ih
    · rw [if_pos rfl, if_pos rfl, List.map_append, List.map_cons, List.map_nil, joinTail_snoc, ByteArray.data_append, ByteArray.data_append, Array.toList_append, Array.toList_append, ih]
      simp
theorem enc_text (k : Int) (rq wh sc mk : ByteArray) (pr am nu : Int) (n : Nat) : joinB (firstOf k :: wordsTo k rq wh sc mk pr am nu n) ⟨#[32]⟩ = textTo k rq wh sc mk pr am nu n := by
  apply text_ext
  rw [enc_join]
  unfold joinB
  show (Lib.join _ _) = _
  rw [List.map_cons, Lib.join_cons]
theorem lens_le (n : Nat) : ∀ l : List ByteArray, (∀ s ∈ l, s.size ≤ n) → Lib.lens (l.map (·.data.toList)) ≤ l.length * n
  | [], _ => by simp [Lib.lens]
  | s :: r, h => by
    have h1 := lens_le n r (fun x hx => h x (List.mem_cons_of_mem _ hx))
    have h2 := h s List.mem_cons_self
    have h3 := size_len s
    simp only [Lib.lens, List.map_cons, List.sum_cons, List.length_cons] at h1 ⊢
    rw [Nat.succ_mul]
    omega
theorem joined_some (x : ByteArray) (r : List ByteArray) (hl : r.length ≤ 100) (hx : x.size ≤ 1000000) (h : ∀ s ∈ r, s.size ≤ 1000000) : wire_joined.f (x :: r) = some (joinB (x :: r) ⟨#[32]⟩) := by
  unfold wire_joined.f strings_Join.f
  have h1 := lens_le 1000000 (x :: r) (fun s hs => by rcases List.mem_cons.1 hs with rfl | hs; exact hx; exact h s hs)
  have h2 : (Lib.join ((x :: r).map (·.data.toList)) [32]).length ≤ 140737488355328 := by
    rw [List.map_cons, Lib.join_length]
    simp only [List.length_cons, List.length_nil, List.length_map, List.map_cons] at h1 ⊢
    omega
  rw [if_pos ⟨by simp only [List.length_cons]; omega, h2⟩]
  rfl
theorem words_bound {k : Int} {rq wh sc mk : ByteArray} {pr am nu : Int} (hs : fewS rq wh sc mk) (h5 : in64 pr) (h6 : in64 am) (h7 : nu.toNat < 100000000000000000000) (n : Nat) : ∀ s ∈ wordsTo k rq wh sc mk pr am nu n, s.size ≤ 1000000 := by
  intro s hsm
  unfold wordsTo at hsm
  obtain ⟨i, hi, rfl⟩ := List.mem_map.1 hsm
  obtain ⟨s1, s2, s3, s4⟩ := hs
  have hint : ∀ v, in64 v → (⟨(intText v).toArray⟩ : ByteArray).size ≤ 1000000 := fun v hv => by
    show (intText v).toArray.size ≤ _
    rw [List.size_toArray]
    unfold intText
    have h1 := hv.1
    have h2 := hv.2
    split
    · have := (decText_facts v.natAbs (by omega)).2.2.2
      simp only [List.length_cons]
      omega
    · have := (decText_facts v.toNat (by omega)).2.2.2
      omega
  unfold wordOf
  split
  · exact s1
  · exact s2
  · exact s3
  · exact s4
  · exact hint _ h5
  · exact hint _ h6
  · show (decText nu.toNat).toArray.size ≤ _
    rw [List.size_toArray]
    have := (decText_facts nu.toNat h7).2.2.2
    omega
theorem words_len (k : Int) (rq wh sc mk : ByteArray) (pr am nu : Int) (n : Nat) : (wordsTo k rq wh sc mk pr am nu n).length ≤ n := by
  unfold wordsTo
  rw [List.length_map]
  exact Nat.le_trans (List.length_filter_le _ _) (by simp)
theorem join7 {x : ByteArray} {r : List ByteArray} (hx : x.size ≤ 8) (hl : r.length ≤ 7) (h : ∀ s ∈ r, s.size ≤ 1000000) : (joinB (x :: r) ⟨#[32]⟩).data.toList.length ≤ 9223372036854775807 := by
  have h1 := lens_le 1000000 (x :: r) (fun s hs => by rcases List.mem_cons.1 hs with rfl | hs; omega; exact h s hs)
  unfold joinB
  show (Lib.join _ _).length ≤ _
  rw [List.map_cons, Lib.join_length]
  simp only [List.length_cons, List.length_nil, List.length_map, List.map_cons] at h1 ⊢
  omega
set_option maxHeartbeats 16000000 in
set_option maxRecDepth 100000 in
set_option linter.unusedSimpArgs false in
theorem wire_Encode_ok (a0_0 : Int) (a0_1 : ByteArray) (a0_2 : ByteArray) (a0_3 : ByteArray) (a0_4 : ByteArray) (a0_5 : Int) (a0_6 : Int) (a0_7 : Int) (w : World) (hG : Glob w) (hs : fewS a0_1 a0_2 a0_3 a0_4) (h7 : 0 ≤ a0_7) (hok : okCmd a0_0 a0_1 a0_2 a0_3 a0_4 a0_5 a0_6 a0_7 = true) :
    Calls Tryd.prog 11 #[.agg #[.int .i64 a0_0, .string a0_1, .string a0_2, .string a0_3, .string a0_4, .int .i64 a0_5, .int .i64 a0_6, .int .u64 a0_7]] w (EncRet w (joinB (firstOf a0_0 :: wordsTo a0_0 a0_1 a0_2 a0_3 a0_4 a0_5 a0_6 a0_7 7) ⟨#[32]⟩) 0) := by
  obtain ⟨hk, h5, h6, h7'⟩ := ok_numbers hok
  have HC : Hid (∀ W, Glob W → Calls Tryd.prog 15 #[.agg #[.int .i64 a0_0, .string a0_1, .string a0_2, .string a0_3, .string a0_4, .int .i64 a0_5, .int .i64 a0_6, .int .u64 a0_7]] W fun e w' => e = .returned (.int .i64 0) ∧ Below W.heap.size W w') := Lib.hid fun W hW => wire_Check.calls _ _ _ _ _ _ _ _ 0 W hW (by unfold wire_Check.f; rw [if_pos hs, hok]; rfl)
  obtain ⟨fa, hfa⟩ : ∃ x : Array Value, x = (firsts.map Value.string).toArray := ⟨_, rfl⟩
  obtain ⟨fo, hfo⟩ : ∃ x : ByteArray, x = firstOf a0_0 := ⟨_, rfl⟩
  have HF : Hid (∀ W, Calls Tryd.prog 19 #[] W fun e w' => e = .returned (.agg fa) ∧ Below W.heap.size W w') := Lib.hid fun W => by rw [hfa]; exact wire_first_calls W
  have hidx : ∀ W, (Instr.index 38 (.agg fa) (.int .i64 a0_0)).run Tryd.prog W = .ok (.string fo) W := fun W => by rw [hfa, hfo]; exact idx_first (by omega) W
  obtain ⟨x4, hx4⟩ : ∃ x : ByteArray, x = ⟨(intText a0_5).toArray⟩ := ⟨_, rfl⟩
  obtain ⟨x5, hx5⟩ : ∃ x : ByteArray, x = ⟨(intText a0_6).toArray⟩ := ⟨_, rfl⟩
  obtain ⟨x6, hx6⟩ : ∃ x : ByteArray, x = ⟨(decText a0_7.toNat).toArray⟩ := ⟨_, rfl⟩
  have HT4 : Hid (∀ W, Glob W → Calls Tryd.prog 20 #[.int .i64 a0_5] W fun e w' => e = .returned (.string x4) ∧ Below W.heap.size W w') := Lib.hid fun W hW => coin_Text.calls a0_5 x4 W hW (by rw [hx4]; exact if_pos h5)
  have HT5 : Hid (∀ W, Glob W → Calls Tryd.prog 20 #[.int .i64 a0_6] W fun e w' => e = .returned (.string x5) ∧ Below W.heap.size W w') := Lib.hid fun W hW => coin_Text.calls a0_6 x5 W hW (by rw [hx5]; exact if_pos h6)
  have HT6 : Hid (∀ W, Glob W → Calls Tryd.prog 21 #[.int .u64 a0_7, .int .i64 10] W fun e w' => e = .returned (.string x6) ∧ Below W.heap.size W w') := Lib.hid fun W hW => strconv_FormatUint.calls a0_7 x6 W hW (by rw [hx6]; exact if_pos ⟨h7, by omega⟩)
  have HW0 : ∀ n, wordOf a0_1 a0_2 a0_3 a0_4 a0_5 a0_6 a0_7 n = wd7 a0_1 a0_2 a0_3 a0_4 x4 x5 x6 n := fun n => by rw [word_wd7, hx4, hx5, hx6]
  have HN := Lib.hid hk
  have HWN : Hid (∀ n, wordsTo a0_0 a0_1 a0_2 a0_3 a0_4 a0_5 a0_6 a0_7 (n + 1) = wordsTo a0_0 a0_1 a0_2 a0_3 a0_4 a0_5 a0_6 a0_7 n ++ (if hasW a0_0 n then [wd7 a0_1 a0_2 a0_3 a0_4 x4 x5 x6 n] else [])) := Lib.hid (fun n => by rw [words_next, HW0 n])
  obtain ⟨wt, hwt⟩ : ∃ f : Nat → List ByteArray, f = wordsTo a0_0 a0_1 a0_2 a0_3 a0_4 a0_5 a0_6 a0_7 := ⟨_, rfl⟩
  have HWB : Hid (∀ n, ∀ s ∈ wt n, s.size ≤ 1000000) := Lib.hid (fun n => by rw [hwt]; exact words_bound hs h5 h6 (by omega) n)
  have HWL : Hid (∀ n, (wt n).length ≤ n) := Lib.hid (fun n => by rw [hwt]; exact words_len _ _ _ _ _ _ _ _ n)
  rw [← hwt] at HWN
  have hwt0 : wt 0 = [] := by rw [hwt]; rfl
  have HW1 := Lib.hid hwt0; clear hwt0
  rw [← hwt, ← hfo]
  obtain ⟨K, hK⟩ : ∃ b, maskOf a0_0 = b := ⟨_, rfl⟩
  have HD : Hid (∀ W, Glob W → Calls Tryd.prog 22 #[.int .i64 a0_0] W fun e w' => e = .returned (.int .i64 K) ∧ Drawn0 W w') := Lib.hid fun W hW => wire_words.calls a0_0 _ W hW (by rw [← hK]; exact if_pos (by omega))
  have HM : Hid (∀ i, i < 7 → (bits .and .i64 K ((2 ^ i : Nat) : Int) != 0) = hasW a0_0 i) := Lib.hid (fun i hi => by rw [← hK]; exact mask_none (by omega) i hi)
  have HFB : Hid (fo.size ≤ 8) := Lib.hid (by rw [hfo]; rcases kind_cases (a := a0_0) (by omega) with rfl | rfl | rfl | rfl | rfl | rfl | rfl | rfl | rfl | rfl | rfl | rfl | rfl | rfl <;> decide)
  have hci := CI.start (cs := #[.int .i64 a0_0, .string a0_1, .string a0_2, .string a0_3, .string a0_4, .int .i64 a0_5, .int .i64 a0_6, .int .u64 a0_7]) hG
  have HG := Lib.hid hG
  clear hG hs h7 hok hk h5 h6 h7' hfa hfo hx4 hx5 hx6 HW0 hwt hK
  go_enter Tryd.func11, Tryd.ntmps11
  go_upto_region 4 with (go_at_call 15; refine (HC.out _ hci.glob).mono ?_; rintro e w1 ⟨rfl, hb⟩; replace hci := hci.step hb; clear hb; have c0 := blk_cell hci.blk 0; have c1 := blk_cell hci.blk 1; have c2 := blk_cell hci.blk 2; have c3 := blk_cell hci.blk 3; have c4 := blk_cell hci.blk 4; have c5 := blk_cell hci.blk 5; have c6 := blk_cell hci.blk 6; have c7 := blk_cell hci.blk 7; simp only [List.getElem?_toArray, List.getElem?_cons_zero, List.getElem?_cons_succ] at c0 c1 c2 c3 c4 c5 c6 c7)
  have HCI := Lib.hid hci; clear hci HC
  clear c0 c1 c2 c3 c4 c5 c6 c7
  go_cut [5] (fun v5 wc => Hid (CE w #[.int .i64 a0_0, .string a0_1, .string a0_2, .string a0_3, .string a0_4, .int .i64 a0_5, .int .i64 a0_6, .int .u64 a0_7] v5 [fo] wc))
  case first =>
    have hci := HCI.out.step (below_drew1 (Below.refl _ _))
    try go_wp2
    refine start_ (n := 6) (S := fun w' => w'.cell? ⟨w.heap.size, 0, none⟩ = some (.int .i64 a0_0) ∧ w'.cell? ⟨w.heap.size, 1, none⟩ = some (.string a0_1) ∧ w'.cell? ⟨w.heap.size, 2, none⟩ = some (.string a0_2) ∧ w'.cell? ⟨w.heap.size, 3, none⟩ = some (.string a0_3) ∧ w'.cell? ⟨w.heap.size, 4, none⟩ = some (.string a0_4) ∧ w'.cell? ⟨w.heap.size, 5, none⟩ = some (.int .i64 a0_5) ∧ w'.cell? ⟨w.heap.size, 6, none⟩ = some (.int .i64 a0_6) ∧ w'.cell? ⟨w.heap.size, 7, none⟩ = some (.int .u64 a0_7)) (ds := []) #[false, false, false, false, false, false] (by kernel_rfl) rfl rfl ⟨(blk_cell hci.blk 0).trans rfl, (blk_cell hci.blk 1).trans rfl, (blk_cell hci.blk 2).trans rfl, (blk_cell hci.blk 3).trans rfl, (blk_cell hci.blk 4).trans rfl, (blk_cell hci.blk 5).trans rfl, (blk_cell hci.blk 6).trans rfl, (blk_cell hci.blk 7).trans rfl⟩ (fun hHeld => ?_); refine with_tabW enc4_tab enc4_bits (fun HT_ HW_ => ?_)
    generalize w1.drew = w3 at hci hHeld ⊢
    (refine pure_ (i := 1) (N := some 15) (v := ?_) (a' := ?_) (fl_ 6 2) rfl rfl (any_of HT_.out (by kernel_rfl)) (fun _ _ _ h => h) (Or.inl ⟨by rfl, ?_⟩) ?_ ?_; rotate_left; (· (intro w'; go_simp; with_reducible rfl)); rotate_left; (· (simp only [Act.put, List.setIfInBounds_toArray, List.set_cons_zero, List.set_cons_succ, i64_w, i32_w]; rfl)))
    (refine take_ (i := 2) (N := some 16) (v := ?_) (a' := ?_) (fl_ 6 6) rfl rfl (take_ofW HT_.out HW_.out (by kernel_rfl)) (fun _ _ _ h => h) (Or.inl ⟨by rfl, ?_⟩) hHeld ?_ ?_; rotate_left; (· (rintro w' ⟨s0, s1, s2, s3, s4, s5, s6, s7⟩; go_simp; with_reducible rfl)); rotate_left; (· (simp only [Act.put, List.setIfInBounds_toArray, List.set_cons_zero, List.set_cons_succ, i64_w, i32_w]; rfl)))
    refine one_ (i := 0) (N := some 14) (fl_ 6 7) rfl rfl (one_of HT_.out (by kernel_rfl)) (by decide) (fun K hK => ?_)
    refine goes_ Tryd.func19 (by kernel_rfl) rfl #[] (by rfl) rfl rfl (by (try simp only [List.map_toArray, List.map_cons, List.map_nil]); first | done | rfl) ?_
    refine (HF.out _).mono ?_
    rintro e w4 ⟨rfl, hb⟩
    refine ⟨_, rfl, ?_⟩
    replace hci := hci.step hb
    clear hb
    refine hK.out _ _ ⟨(blk_cell hci.blk 0).trans rfl, (blk_cell hci.blk 1).trans rfl, (blk_cell hci.blk 2).trans rfl, (blk_cell hci.blk 3).trans rfl, (blk_cell hci.blk 4).trans rfl, (blk_cell hci.blk 5).trans rfl, (blk_cell hci.blk 6).trans rfl, (blk_cell hci.blk 7).trans rfl⟩ (fun hHeld => ?_)
    clear hK K
    refine norm_ (a' := ?_) ?_ ?_; rotate_left; (· (show Act.put _ (some 14) _ = _; simp only [Act.put, List.setIfInBounds_toArray, List.set_cons_zero, List.set_cons_succ, i64_w, i32_w]; rfl))
    (refine pure_ (i := 3) (N := some 17) (v := ?_) (a' := ?_) (fl_ 6 15) rfl rfl (any_of HT_.out (by kernel_rfl)) (fun _ _ _ h => h) (Or.inl ⟨by rfl, ?_⟩) ?_ ?_; rotate_left; (· (intro w'; go_simp; with_reducible rfl)); rotate_left; (· (simp only [Act.put, List.setIfInBounds_toArray, List.set_cons_zero, List.set_cons_succ, i64_w, i32_w]; rfl)))
    refine one_ (i := 4) (N := some 18) (fl_ 6 31) rfl rfl (one_of HT_.out (by kernel_rfl)) (by decide) (fun K hK => ?_)
    refine lit_step (by rfl) (inner := #[.string fo]) (e := 9) (n := 1) ?hr ?_
    case hr => first | (go_simp; done) | (go_simp; rfl)
    have hR := Kd.R_of_own (h1 := fun _ => rfl) (ok := fun _ => True) (own_lit_of (enc := Value.string) w4 w.heap.size 9 [fo] hci.below.size (by show 1 ≤ _; decide)) (fun _ _ => trivial)
    have hci2 := hci.step (below_alloc (Below.refl _ _) (.cells #[.string fo] 9))
    clear hci
    have hci := hci2
    clear hci2
    refine hK.out _ _ ⟨(blk_cell hci.blk 0).trans rfl, (blk_cell hci.blk 1).trans rfl, (blk_cell hci.blk 2).trans rfl, (blk_cell hci.blk 3).trans rfl, (blk_cell hci.blk 4).trans rfl, (blk_cell hci.blk 5).trans rfl, (blk_cell hci.blk 6).trans rfl, (blk_cell hci.blk 7).trans rfl⟩ (fun hHeld => ?_)
    clear hK K
    refine norm_ (a' := ?_) ?_ ?_; rotate_left; (· (show Act.put _ (some 18) _ = _; simp only [Act.put, List.setIfInBounds_toArray, List.set_cons_zero, List.set_cons_succ, i64_w, i32_w]; rfl))
    (refine pure_ (i := 5) (N := some 5) (v := ?_) (a' := ?_) (fl_ 6 63) rfl rfl (any_of HT_.out (by kernel_rfl)) (fun _ _ _ h => h) (Or.inl ⟨by rfl, ?_⟩) ?_ ?_; rotate_left; (· (intro w'; go_simp; with_reducible rfl)); rotate_left; (· (simp only [Act.put, List.setIfInBounds_toArray, List.set_cons_zero, List.set_cons_succ, i64_w, i32_w]; rfl)))
    refine done_ (done_of HT_.out (by kernel_rfl)) ?_
    try go_wp2
    go_meet
    case rel => exact Lib.hid ⟨hci.blk, hci.below, HG.out, hR⟩
  case rest =>
    clear HCI HF hidx
    have HC0 := hcut
    clear hcut
    go_upto_region 5 with (fail)
    go_cut [6] (fun v6 wd => ∃ g2, v6 = .pointer (some ⟨g2, 0, none⟩) ∧ Hid (wd.heap[g2]? = some (.cells #[.string a0_1, .string a0_2, .string a0_3, .string a0_4, .string x4, .string x5, .string x6] 43 (0, 0))) ∧ Hid (CE w #[.int .i64 a0_0, .string a0_1, .string a0_2, .string a0_3, .string a0_4, .int .i64 a0_5, .int .i64 a0_6, .int .u64 a0_7] u5 [fo] wd))
    case first =>
      have hce := HC0.out.step (below_drew1 (Below.refl _ _))
      clear HC0
      try go_wp2
      refine start_ (n := 20) (S := fun w' => w'.cell? ⟨w.heap.size, 0, none⟩ = some (.int .i64 a0_0) ∧ w'.cell? ⟨w.heap.size, 1, none⟩ = some (.string a0_1) ∧ w'.cell? ⟨w.heap.size, 2, none⟩ = some (.string a0_2) ∧ w'.cell? ⟨w.heap.size, 3, none⟩ = some (.string a0_3) ∧ w'.cell? ⟨w.heap.size, 4, none⟩ = some (.string a0_4) ∧ w'.cell? ⟨w.heap.size, 5, none⟩ = some (.int .i64 a0_5) ∧ w'.cell? ⟨w.heap.size, 6, none⟩ = some (.int .i64 a0_6) ∧ w'.cell? ⟨w.heap.size, 7, none⟩ = some (.int .u64 a0_7)) (ds := []) #[false, false, false, false, false, false, false, false, false, false, false, false, false, false, false, false, false, false, false, false] (by kernel_rfl) rfl rfl ⟨(blk_cell hce.blk 0).trans rfl, (blk_cell hce.blk 1).trans rfl, (blk_cell hce.blk 2).trans rfl, (blk_cell hce.blk 3).trans rfl, (blk_cell hce.blk 4).trans rfl, (blk_cell hce.blk 5).trans rfl, (blk_cell hce.blk 6).trans rfl, (blk_cell hce.blk 7).trans rfl⟩ (fun hHeld => ?_); refine with_tabW enc5_tab enc5_bits (fun HT_ HW_ => ?_)
      generalize wc.drew = w3 at hce hHeld ⊢
      (refine pure_ (i := 0) (N := some 19) (v := ?_) (a' := ?_) (fl_ 20 1) rfl rfl (any_of HT_.out (by kernel_rfl)) (fun _ _ _ h => h) (Or.inl ⟨by rfl, ?_⟩) ?_ ?_; rotate_left; (· (intro w'; go_simp; with_reducible rfl)); rotate_left; (· (simp only [Act.put, List.setIfInBounds_toArray, List.set_cons_zero, List.set_cons_succ, i64_w, i32_w]; rfl)))
      (refine pure_ (i := 2) (N := some 21) (v := ?_) (a' := ?_) (fl_ 20 5) rfl rfl (any_of HT_.out (by kernel_rfl)) (fun _ _ _ h => h) (Or.inl ⟨by rfl, ?_⟩) ?_ ?_; rotate_left; (· (intro w'; go_simp; with_reducible rfl)); rotate_left; (· (simp only [Act.put, List.setIfInBounds_toArray, List.set_cons_zero, List.set_cons_succ, i64_w, i32_w]; rfl)))
      (refine pure_ (i := 4) (N := some 23) (v := ?_) (a' := ?_) (fl_ 20 21) rfl rfl (any_of HT_.out (by kernel_rfl)) (fun _ _ _ h => h) (Or.inl ⟨by rfl, ?_⟩) ?_ ?_; rotate_left; (· (intro w'; go_simp; with_reducible rfl)); rotate_left; (· (simp only [Act.put, List.setIfInBounds_toArray, List.set_cons_zero, List.set_cons_succ, i64_w, i32_w]; rfl)))
      (refine pure_ (i := 6) (N := some 25) (v := ?_) (a' := ?_) (fl_ 20 85) rfl rfl (any_of HT_.out (by kernel_rfl)) (fun _ _ _ h => h) (Or.inl ⟨by rfl, ?_⟩) ?_ ?_; rotate_left; (· (intro w'; go_simp; with_reducible rfl)); rotate_left; (· (simp only [Act.put, List.setIfInBounds_toArray, List.set_cons_zero, List.set_cons_succ, i64_w, i32_w]; rfl)))
      (refine pure_ (i := 8) (N := some 27) (v := ?_) (a' := ?_) (fl_ 20 341) rfl rfl (any_of HT_.out (by kernel_rfl)) (fun _ _ _ h => h) (Or.inl ⟨by rfl, ?_⟩) ?_ ?_; rotate_left; (· (intro w'; go_simp; with_reducible rfl)); rotate_left; (· (simp only [Act.put, List.setIfInBounds_toArray, List.set_cons_zero, List.set_cons_succ, i64_w, i32_w]; rfl)))
      (refine pure_ (i := 11) (N := some 30) (v := ?_) (a' := ?_) (fl_ 20 2389) rfl rfl (any_of HT_.out (by kernel_rfl)) (fun _ _ _ h => h) (Or.inl ⟨by rfl, ?_⟩) ?_ ?_; rotate_left; (· (intro w'; go_simp; with_reducible rfl)); rotate_left; (· (simp only [Act.put, List.setIfInBounds_toArray, List.set_cons_zero, List.set_cons_succ, i64_w, i32_w]; rfl)))
      (refine pure_ (i := 14) (N := some 33) (v := ?_) (a' := ?_) (fl_ 20 18773) rfl rfl (any_of HT_.out (by kernel_rfl)) (fun _ _ _ h => h) (Or.inl ⟨by rfl, ?_⟩) ?_ ?_; rotate_left; (· (intro w'; go_simp; with_reducible rfl)); rotate_left; (· (simp only [Act.put, List.setIfInBounds_toArray, List.set_cons_zero, List.set_cons_succ, i64_w, i32_w]; rfl)))
      (refine take_ (i := 1) (N := some 20) (v := ?_) (a' := ?_) (fl_ 20 18775) rfl rfl (take_ofW HT_.out HW_.out (by kernel_rfl)) (fun _ _ _ h => h) (Or.inl ⟨by rfl, ?_⟩) hHeld ?_ ?_; rotate_left; (· (rintro w' ⟨s0, s1, s2, s3, s4, s5, s6, s7⟩; go_simp; with_reducible rfl)); rotate_left; (· (simp only [Act.put, List.setIfInBounds_toArray, List.set_cons_zero, List.set_cons_succ, i64_w, i32_w]; rfl)))
      (refine take_ (i := 3) (N := some 22) (v := ?_) (a' := ?_) (fl_ 20 18783) rfl rfl (take_ofW HT_.out HW_.out (by kernel_rfl)) (fun _ _ _ h => h) (Or.inl ⟨by rfl, ?_⟩) hHeld ?_ ?_; rotate_left; (· (rintro w' ⟨s0, s1, s2, s3, s4, s5, s6, s7⟩; go_simp; with_reducible rfl)); rotate_left; (· (simp only [Act.put, List.setIfInBounds_toArray, List.set_cons_zero, List.set_cons_succ, i64_w, i32_w]; rfl)))
      (refine take_ (i := 5) (N := some 24) (v := ?_) (a' := ?_) (fl_ 20 18815) rfl rfl (take_ofW HT_.out HW_.out (by kernel_rfl)) (fun _ _ _ h => h) (Or.inl ⟨by rfl, ?_⟩) hHeld ?_ ?_; rotate_left; (· (rintro w' ⟨s0, s1, s2, s3, s4, s5, s6, s7⟩; go_simp; with_reducible rfl)); rotate_left; (· (simp only [Act.put, List.setIfInBounds_toArray, List.set_cons_zero, List.set_cons_succ, i64_w, i32_w]; rfl)))
      (refine take_ (i := 7) (N := some 26) (v := ?_) (a' := ?_) (fl_ 20 18943) rfl rfl (take_ofW HT_.out HW_.out (by kernel_rfl)) (fun _ _ _ h => h) (Or.inl ⟨by rfl, ?_⟩) hHeld ?_ ?_; rotate_left; (· (rintro w' ⟨s0, s1, s2, s3, s4, s5, s6, s7⟩; go_simp; with_reducible rfl)); rotate_left; (· (simp only [Act.put, List.setIfInBounds_toArray, List.set_cons_zero, List.set_cons_succ, i64_w, i32_w]; rfl)))
      (refine take_ (i := 9) (N := some 28) (v := ?_) (a' := ?_) (fl_ 20 19455) rfl rfl (take_ofW HT_.out HW_.out (by kernel_rfl)) (fun _ _ _ h => h) (Or.inl ⟨by rfl, ?_⟩) hHeld ?_ ?_; rotate_left; (· (rintro w' ⟨s0, s1, s2, s3, s4, s5, s6, s7⟩; go_simp; with_reducible rfl)); rotate_left; (· (simp only [Act.put, List.setIfInBounds_toArray, List.set_cons_zero, List.set_cons_succ, i64_w, i32_w]; rfl)))
      (refine take_ (i := 12) (N := some 31) (v := ?_) (a' := ?_) (fl_ 20 23551) rfl rfl (take_ofW HT_.out HW_.out (by kernel_rfl)) (fun _ _ _ h => h) (Or.inl ⟨by rfl, ?_⟩) hHeld ?_ ?_; rotate_left; (· (rintro w' ⟨s0, s1, s2, s3, s4, s5, s6, s7⟩; go_simp; with_reducible rfl)); rotate_left; (· (simp only [Act.put, List.setIfInBounds_toArray, List.set_cons_zero, List.set_cons_succ, i64_w, i32_w]; rfl)))
      (refine take_ (i := 15) (N := some 34) (v := ?_) (a' := ?_) (fl_ 20 56319) rfl rfl (take_ofW HT_.out HW_.out (by kernel_rfl)) (fun _ _ _ h => h) (Or.inl ⟨by rfl, ?_⟩) hHeld ?_ ?_; rotate_left; (· (rintro w' ⟨s0, s1, s2, s3, s4, s5, s6, s7⟩; go_simp; with_reducible rfl)); rotate_left; (· (simp only [Act.put, List.setIfInBounds_toArray, List.set_cons_zero, List.set_cons_succ, i64_w, i32_w]; rfl)))
      refine join_ (σ := Nat) 1 (fl_ 20 524287) (fun g2 => [(29, .string x4), (32, .string x5), (35, .string x6), (36, .agg #[.string a0_1, .string a0_2, .string a0_3, .string a0_4, .string x4, .string x5, .string x6]), (6, .pointer (some ⟨g2, 0, none⟩))]) (fun g2 W => W.heap[g2]? = some (.cells #[.string ⟨#[]⟩, .string ⟨#[]⟩, .string ⟨#[]⟩, .string ⟨#[]⟩, .string ⟨#[]⟩, .string ⟨#[]⟩, .string ⟨#[]⟩] 43 (0, 0)) ∧ w.heap.size ≤ g2 ∧ CE w #[.int .i64 a0_0, .string a0_1, .string a0_2, .string a0_3, .string a0_4, .int .i64 a0_5, .int .i64 a0_6, .int .u64 a0_7] u5 [fo] W) ?_ ?_
      rotate_left
      · intro hCont
        refine two_ (i := 10) (j := 18) (Ni := some 29) (Nj := some 6) (fl_ 20 57343) (fl_ 20 318463) rfl rfl rfl rfl (two_of HT_.out (by kernel_rfl)) (by decide) (by decide) (fun K hK => ?_) (fun K hK => ?_)
        · skip
          refine goes_ Tryd.func20 (by kernel_rfl) rfl #[.int .i64 a0_5] (by rfl) rfl rfl (by (try simp only [List.map_toArray, List.map_cons, List.map_nil]); first | done | rfl) ?_
          refine (HT4.out _ hce.glob).mono ?_
          rintro e w4 ⟨rfl, hb⟩
          refine ⟨_, rfl, ?_⟩
          try have hgz := blk_below hgz hb
          have hce := hce.step hb
          refine hK.out _ _ ⟨(blk_cell hce.blk 0).trans rfl, (blk_cell hce.blk 1).trans rfl, (blk_cell hce.blk 2).trans rfl, (blk_cell hce.blk 3).trans rfl, (blk_cell hce.blk 4).trans rfl, (blk_cell hce.blk 5).trans rfl, (blk_cell hce.blk 6).trans rfl, (blk_cell hce.blk 7).trans rfl⟩ (fun hHeld => ?_)
          clear hK K
          refine norm_ (a' := ?_) ?_ ?_; rotate_left; (· (show Act.put _ (some 29) _ = _; simp only [Act.put, List.setIfInBounds_toArray, List.set_cons_zero, List.set_cons_succ, i64_w, i32_w]; rfl))
          refine two_ (i := 13) (j := 18) (Ni := some 32) (Nj := some 6) (fl_ 20 65535) (fl_ 20 319487) rfl rfl rfl rfl (two_of HT_.out (by kernel_rfl)) (by decide) (by decide) (fun K hK => ?_) (fun K hK => ?_)
          · skip
            refine goes_ Tryd.func20 (by kernel_rfl) rfl #[.int .i64 a0_6] (by rfl) rfl rfl (by (try simp only [List.map_toArray, List.map_cons, List.map_nil]); first | done | rfl) ?_
            refine (HT5.out _ hce.glob).mono ?_
            rintro e w5 ⟨rfl, hb⟩
            refine ⟨_, rfl, ?_⟩
            try have hgz := blk_below hgz hb
            have hce := hce.step hb
            refine hK.out _ _ ⟨(blk_cell hce.blk 0).trans rfl, (blk_cell hce.blk 1).trans rfl, (blk_cell hce.blk 2).trans rfl, (blk_cell hce.blk 3).trans rfl, (blk_cell hce.blk 4).trans rfl, (blk_cell hce.blk 5).trans rfl, (blk_cell hce.blk 6).trans rfl, (blk_cell hce.blk 7).trans rfl⟩ (fun hHeld => ?_)
            clear hK K
            refine norm_ (a' := ?_) ?_ ?_; rotate_left; (· (show Act.put _ (some 32) _ = _; simp only [Act.put, List.setIfInBounds_toArray, List.set_cons_zero, List.set_cons_succ, i64_w, i32_w]; rfl))
            refine two_ (i := 16) (j := 18) (Ni := some 35) (Nj := some 6) (fl_ 20 131071) (fl_ 20 327679) rfl rfl rfl rfl (two_of HT_.out (by kernel_rfl)) (by decide) (by decide) (fun K hK => ?_) (fun K hK => ?_)
            · skip
              refine goes_ Tryd.func21 (by kernel_rfl) rfl #[.int .u64 a0_7, .int .i64 10] (by rfl) rfl rfl (by (try simp only [List.map_toArray, List.map_cons, List.map_nil]); first | done | rfl) ?_
              refine (HT6.out _ hce.glob).mono ?_
              rintro e w6 ⟨rfl, hb⟩
              refine ⟨_, rfl, ?_⟩
              try have hgz := blk_below hgz hb
              have hce := hce.step hb
              refine hK.out _ _ ⟨(blk_cell hce.blk 0).trans rfl, (blk_cell hce.blk 1).trans rfl, (blk_cell hce.blk 2).trans rfl, (blk_cell hce.blk 3).trans rfl, (blk_cell hce.blk 4).trans rfl, (blk_cell hce.blk 5).trans rfl, (blk_cell hce.blk 6).trans rfl, (blk_cell hce.blk 7).trans rfl⟩ (fun hHeld => ?_)
              clear hK K
              refine norm_ (a' := ?_) ?_ ?_; rotate_left; (· (show Act.put _ (some 35) _ = _; simp only [Act.put, List.setIfInBounds_toArray, List.set_cons_zero, List.set_cons_succ, i64_w, i32_w]; rfl))
              (refine pure_ (i := 17) (N := some 36) (v := ?_) (a' := ?_) (fl_ 20 262143) rfl rfl (any_of HT_.out (by kernel_rfl)) (fun _ _ _ h => h) (Or.inl ⟨by rfl, ?_⟩) ?_ ?_; rotate_left; (· (intro w'; go_simp; with_reducible rfl)); rotate_left; (· (simp only [Act.put, List.setIfInBounds_toArray, List.set_cons_zero, List.set_cons_succ, i64_w, i32_w]; rfl)))
              refine one_ (i := 18) (N := some 6) (fl_ 20 524287) rfl rfl (one_of HT_.out (by kernel_rfl)) (by decide) (fun K hK => ?_)
              refine alloc_step (by rfl) (cs := #[.string ⟨#[]⟩, .string ⟨#[]⟩, .string ⟨#[]⟩, .string ⟨#[]⟩, .string ⟨#[]⟩, .string ⟨#[]⟩, .string ⟨#[]⟩]) (e := 43) ?hr ?_
              case hr => first | (go_simp; done) | (go_simp; rfl)
              have hge := hce.below.size
              have hgz := heap_alloc_new w6 (.cells #[.string ⟨#[]⟩, .string ⟨#[]⟩, .string ⟨#[]⟩, .string ⟨#[]⟩, .string ⟨#[]⟩, .string ⟨#[]⟩, .string ⟨#[]⟩] 43)
              have hce' := hce.step (below_alloc (Below.refl _ _) (.cells #[.string ⟨#[]⟩, .string ⟨#[]⟩, .string ⟨#[]⟩, .string ⟨#[]⟩, .string ⟨#[]⟩, .string ⟨#[]⟩, .string ⟨#[]⟩] 43))
              clear hce
              have hce := hce'
              clear hce'
              refine hK.out _ _ ⟨(blk_cell hce.blk 0).trans rfl, (blk_cell hce.blk 1).trans rfl, (blk_cell hce.blk 2).trans rfl, (blk_cell hce.blk 3).trans rfl, (blk_cell hce.blk 4).trans rfl, (blk_cell hce.blk 5).trans rfl, (blk_cell hce.blk 6).trans rfl, (blk_cell hce.blk 7).trans rfl⟩ (fun hHeld => ?_)
              clear hK K
              refine norm_ (a' := ?_) ?_ ?_; rotate_left; (· (show Act.put _ (some 6) _ = _; simp only [Act.put, List.setIfInBounds_toArray, List.set_cons_zero, List.set_cons_succ, i64_w, i32_w]; rfl))
              exact norm_ (by simp only [putAll, Act.put, List.setIfInBounds_toArray, List.set_cons_zero, List.set_cons_succ]) (hCont _ _ ⟨hgz, hge, hce⟩)
            · skip
              refine alloc_step (by rfl) (cs := #[.string ⟨#[]⟩, .string ⟨#[]⟩, .string ⟨#[]⟩, .string ⟨#[]⟩, .string ⟨#[]⟩, .string ⟨#[]⟩, .string ⟨#[]⟩]) (e := 43) ?hr ?_
              case hr => first | (go_simp; done) | (go_simp; rfl)
              have hge := hce.below.size
              have hgz := heap_alloc_new w5 (.cells #[.string ⟨#[]⟩, .string ⟨#[]⟩, .string ⟨#[]⟩, .string ⟨#[]⟩, .string ⟨#[]⟩, .string ⟨#[]⟩, .string ⟨#[]⟩] 43)
              have hce' := hce.step (below_alloc (Below.refl _ _) (.cells #[.string ⟨#[]⟩, .string ⟨#[]⟩, .string ⟨#[]⟩, .string ⟨#[]⟩, .string ⟨#[]⟩, .string ⟨#[]⟩, .string ⟨#[]⟩] 43))
              clear hce
              have hce := hce'
              clear hce'
              refine hK.out _ _ ⟨(blk_cell hce.blk 0).trans rfl, (blk_cell hce.blk 1).trans rfl, (blk_cell hce.blk 2).trans rfl, (blk_cell hce.blk 3).trans rfl, (blk_cell hce.blk 4).trans rfl, (blk_cell hce.blk 5).trans rfl, (blk_cell hce.blk 6).trans rfl, (blk_cell hce.blk 7).trans rfl⟩ (fun hHeld => ?_)
              clear hK K
              refine norm_ (a' := ?_) ?_ ?_; rotate_left; (· (show Act.put _ (some 6) _ = _; simp only [Act.put, List.setIfInBounds_toArray, List.set_cons_zero, List.set_cons_succ, i64_w, i32_w]; rfl))
              refine one_ (i := 16) (N := some 35) (fl_ 20 393215) rfl rfl (one_of HT_.out (by kernel_rfl)) (by decide) (fun K hK => ?_)
              refine goes_ Tryd.func21 (by kernel_rfl) rfl #[.int .u64 a0_7, .int .i64 10] (by rfl) rfl rfl (by (try simp only [List.map_toArray, List.map_cons, List.map_nil]); first | done | rfl) ?_
              refine (HT6.out _ hce.glob).mono ?_
              rintro e w6 ⟨rfl, hb⟩
              refine ⟨_, rfl, ?_⟩
              try have hgz := blk_below hgz hb
              have hce := hce.step hb
              refine hK.out _ _ ⟨(blk_cell hce.blk 0).trans rfl, (blk_cell hce.blk 1).trans rfl, (blk_cell hce.blk 2).trans rfl, (blk_cell hce.blk 3).trans rfl, (blk_cell hce.blk 4).trans rfl, (blk_cell hce.blk 5).trans rfl, (blk_cell hce.blk 6).trans rfl, (blk_cell hce.blk 7).trans rfl⟩ (fun hHeld => ?_)
              clear hK K
              refine norm_ (a' := ?_) ?_ ?_; rotate_left; (· (show Act.put _ (some 35) _ = _; simp only [Act.put, List.setIfInBounds_toArray, List.set_cons_zero, List.set_cons_succ, i64_w, i32_w]; rfl))
              (refine pure_ (i := 17) (N := some 36) (v := ?_) (a' := ?_) (fl_ 20 524287) rfl rfl (any_of HT_.out (by kernel_rfl)) (fun _ _ _ h => h) (Or.inl ⟨by rfl, ?_⟩) ?_ ?_; rotate_left; (· (intro w'; go_simp; with_reducible rfl)); rotate_left; (· (simp only [Act.put, List.setIfInBounds_toArray, List.set_cons_zero, List.set_cons_succ, i64_w, i32_w]; rfl)))
              exact norm_ (by simp only [putAll, Act.put, List.setIfInBounds_toArray, List.set_cons_zero, List.set_cons_succ]) (hCont _ _ ⟨hgz, hge, hce⟩)
          · skip
            refine alloc_step (by rfl) (cs := #[.string ⟨#[]⟩, .string ⟨#[]⟩, .string ⟨#[]⟩, .string ⟨#[]⟩, .string ⟨#[]⟩, .string ⟨#[]⟩, .string ⟨#[]⟩]) (e := 43) ?hr ?_
            case hr => first | (go_simp; done) | (go_simp; rfl)
            have hge := hce.below.size
            have hgz := heap_alloc_new w4 (.cells #[.string ⟨#[]⟩, .string ⟨#[]⟩, .string ⟨#[]⟩, .string ⟨#[]⟩, .string ⟨#[]⟩, .string ⟨#[]⟩, .string ⟨#[]⟩] 43)
            have hce' := hce.step (below_alloc (Below.refl _ _) (.cells #[.string ⟨#[]⟩, .string ⟨#[]⟩, .string ⟨#[]⟩, .string ⟨#[]⟩, .string ⟨#[]⟩, .string ⟨#[]⟩, .string ⟨#[]⟩] 43))
            clear hce
            have hce := hce'
            clear hce'
            refine hK.out _ _ ⟨(blk_cell hce.blk 0).trans rfl, (blk_cell hce.blk 1).trans rfl, (blk_cell hce.blk 2).trans rfl, (blk_cell hce.blk 3).trans rfl, (blk_cell hce.blk 4).trans rfl, (blk_cell hce.blk 5).trans rfl, (blk_cell hce.blk 6).trans rfl, (blk_cell hce.blk 7).trans rfl⟩ (fun hHeld => ?_)
            clear hK K
            refine norm_ (a' := ?_) ?_ ?_; rotate_left; (· (show Act.put _ (some 6) _ = _; simp only [Act.put, List.setIfInBounds_toArray, List.set_cons_zero, List.set_cons_succ, i64_w, i32_w]; rfl))
            refine one_ (i := 13) (N := some 32) (fl_ 20 327679) rfl rfl (one_of HT_.out (by kernel_rfl)) (by decide) (fun K hK => ?_)
            refine goes_ Tryd.func20 (by kernel_rfl) rfl #[.int .i64 a0_6] (by rfl) rfl rfl (by (try simp only [List.map_toArray, List.map_cons, List.map_nil]); first | done | rfl) ?_
            refine (HT5.out _ hce.glob).mono ?_
            rintro e w5 ⟨rfl, hb⟩
            refine ⟨_, rfl, ?_⟩
            try have hgz := blk_below hgz hb
            have hce := hce.step hb
            refine hK.out _ _ ⟨(blk_cell hce.blk 0).trans rfl, (blk_cell hce.blk 1).trans rfl, (blk_cell hce.blk 2).trans rfl, (blk_cell hce.blk 3).trans rfl, (blk_cell hce.blk 4).trans rfl, (blk_cell hce.blk 5).trans rfl, (blk_cell hce.blk 6).trans rfl, (blk_cell hce.blk 7).trans rfl⟩ (fun hHeld => ?_)
            clear hK K
            refine norm_ (a' := ?_) ?_ ?_; rotate_left; (· (show Act.put _ (some 32) _ = _; simp only [Act.put, List.setIfInBounds_toArray, List.set_cons_zero, List.set_cons_succ, i64_w, i32_w]; rfl))
            refine one_ (i := 16) (N := some 35) (fl_ 20 393215) rfl rfl (one_of HT_.out (by kernel_rfl)) (by decide) (fun K hK => ?_)
            refine goes_ Tryd.func21 (by kernel_rfl) rfl #[.int .u64 a0_7, .int .i64 10] (by rfl) rfl rfl (by (try simp only [List.map_toArray, List.map_cons, List.map_nil]); first | done | rfl) ?_
            refine (HT6.out _ hce.glob).mono ?_
            rintro e w6 ⟨rfl, hb⟩
            refine ⟨_, rfl, ?_⟩
            try have hgz := blk_below hgz hb
            have hce := hce.step hb
            refine hK.out _ _ ⟨(blk_cell hce.blk 0).trans rfl, (blk_cell hce.blk 1).trans rfl, (blk_cell hce.blk 2).trans rfl, (blk_cell hce.blk 3).trans rfl, (blk_cell hce.blk 4).trans rfl, (blk_cell hce.blk 5).trans rfl, (blk_cell hce.blk 6).trans rfl, (blk_cell hce.blk 7).trans rfl⟩ (fun hHeld => ?_)
            clear hK K
            refine norm_ (a' := ?_) ?_ ?_; rotate_left; (· (show Act.put _ (some 35) _ = _; simp only [Act.put, List.setIfInBounds_toArray, List.set_cons_zero, List.set_cons_succ, i64_w, i32_w]; rfl))
            (refine pure_ (i := 17) (N := some 36) (v := ?_) (a' := ?_) (fl_ 20 524287) rfl rfl (any_of HT_.out (by kernel_rfl)) (fun _ _ _ h => h) (Or.inl ⟨by rfl, ?_⟩) ?_ ?_; rotate_left; (· (intro w'; go_simp; with_reducible rfl)); rotate_left; (· (simp only [Act.put, List.setIfInBounds_toArray, List.set_cons_zero, List.set_cons_succ, i64_w, i32_w]; rfl)))
            exact norm_ (by simp only [putAll, Act.put, List.setIfInBounds_toArray, List.set_cons_zero, List.set_cons_succ]) (hCont _ _ ⟨hgz, hge, hce⟩)
        · skip
          refine alloc_step (by rfl) (cs := #[.string ⟨#[]⟩, .string ⟨#[]⟩, .string ⟨#[]⟩, .string ⟨#[]⟩, .string ⟨#[]⟩, .string ⟨#[]⟩, .string ⟨#[]⟩]) (e := 43) ?hr ?_
          case hr => first | (go_simp; done) | (go_simp; rfl)
          have hge := hce.below.size
          have hgz := heap_alloc_new w3 (.cells #[.string ⟨#[]⟩, .string ⟨#[]⟩, .string ⟨#[]⟩, .string ⟨#[]⟩, .string ⟨#[]⟩, .string ⟨#[]⟩, .string ⟨#[]⟩] 43)
          have hce' := hce.step (below_alloc (Below.refl _ _) (.cells #[.string ⟨#[]⟩, .string ⟨#[]⟩, .string ⟨#[]⟩, .string ⟨#[]⟩, .string ⟨#[]⟩, .string ⟨#[]⟩, .string ⟨#[]⟩] 43))
          clear hce
          have hce := hce'
          clear hce'
          refine hK.out _ _ ⟨(blk_cell hce.blk 0).trans rfl, (blk_cell hce.blk 1).trans rfl, (blk_cell hce.blk 2).trans rfl, (blk_cell hce.blk 3).trans rfl, (blk_cell hce.blk 4).trans rfl, (blk_cell hce.blk 5).trans rfl, (blk_cell hce.blk 6).trans rfl, (blk_cell hce.blk 7).trans rfl⟩ (fun hHeld => ?_)
          clear hK K
          refine norm_ (a' := ?_) ?_ ?_; rotate_left; (· (show Act.put _ (some 6) _ = _; simp only [Act.put, List.setIfInBounds_toArray, List.set_cons_zero, List.set_cons_succ, i64_w, i32_w]; rfl))
          refine one_ (i := 10) (N := some 29) (fl_ 20 319487) rfl rfl (one_of HT_.out (by kernel_rfl)) (by decide) (fun K hK => ?_)
          refine goes_ Tryd.func20 (by kernel_rfl) rfl #[.int .i64 a0_5] (by rfl) rfl rfl (by (try simp only [List.map_toArray, List.map_cons, List.map_nil]); first | done | rfl) ?_
          refine (HT4.out _ hce.glob).mono ?_
          rintro e w4 ⟨rfl, hb⟩
          refine ⟨_, rfl, ?_⟩
          try have hgz := blk_below hgz hb
          have hce := hce.step hb
          refine hK.out _ _ ⟨(blk_cell hce.blk 0).trans rfl, (blk_cell hce.blk 1).trans rfl, (blk_cell hce.blk 2).trans rfl, (blk_cell hce.blk 3).trans rfl, (blk_cell hce.blk 4).trans rfl, (blk_cell hce.blk 5).trans rfl, (blk_cell hce.blk 6).trans rfl, (blk_cell hce.blk 7).trans rfl⟩ (fun hHeld => ?_)
          clear hK K
          refine norm_ (a' := ?_) ?_ ?_; rotate_left; (· (show Act.put _ (some 29) _ = _; simp only [Act.put, List.setIfInBounds_toArray, List.set_cons_zero, List.set_cons_succ, i64_w, i32_w]; rfl))
          refine one_ (i := 13) (N := some 32) (fl_ 20 327679) rfl rfl (one_of HT_.out (by kernel_rfl)) (by decide) (fun K hK => ?_)
          refine goes_ Tryd.func20 (by kernel_rfl) rfl #[.int .i64 a0_6] (by rfl) rfl rfl (by (try simp only [List.map_toArray, List.map_cons, List.map_nil]); first | done | rfl) ?_
          refine (HT5.out _ hce.glob).mono ?_
          rintro e w5 ⟨rfl, hb⟩
          refine ⟨_, rfl, ?_⟩
          try have hgz := blk_below hgz hb
          have hce := hce.step hb
          refine hK.out _ _ ⟨(blk_cell hce.blk 0).trans rfl, (blk_cell hce.blk 1).trans rfl, (blk_cell hce.blk 2).trans rfl, (blk_cell hce.blk 3).trans rfl, (blk_cell hce.blk 4).trans rfl, (blk_cell hce.blk 5).trans rfl, (blk_cell hce.blk 6).trans rfl, (blk_cell hce.blk 7).trans rfl⟩ (fun hHeld => ?_)
          clear hK K
          refine norm_ (a' := ?_) ?_ ?_; rotate_left; (· (show Act.put _ (some 32) _ = _; simp only [Act.put, List.setIfInBounds_toArray, List.set_cons_zero, List.set_cons_succ, i64_w, i32_w]; rfl))
          refine one_ (i := 16) (N := some 35) (fl_ 20 393215) rfl rfl (one_of HT_.out (by kernel_rfl)) (by decide) (fun K hK => ?_)
          refine goes_ Tryd.func21 (by kernel_rfl) rfl #[.int .u64 a0_7, .int .i64 10] (by rfl) rfl rfl (by (try simp only [List.map_toArray, List.map_cons, List.map_nil]); first | done | rfl) ?_
          refine (HT6.out _ hce.glob).mono ?_
          rintro e w6 ⟨rfl, hb⟩
          refine ⟨_, rfl, ?_⟩
          try have hgz := blk_below hgz hb
          have hce := hce.step hb
          refine hK.out _ _ ⟨(blk_cell hce.blk 0).trans rfl, (blk_cell hce.blk 1).trans rfl, (blk_cell hce.blk 2).trans rfl, (blk_cell hce.blk 3).trans rfl, (blk_cell hce.blk 4).trans rfl, (blk_cell hce.blk 5).trans rfl, (blk_cell hce.blk 6).trans rfl, (blk_cell hce.blk 7).trans rfl⟩ (fun hHeld => ?_)
          clear hK K
          refine norm_ (a' := ?_) ?_ ?_; rotate_left; (· (show Act.put _ (some 35) _ = _; simp only [Act.put, List.setIfInBounds_toArray, List.set_cons_zero, List.set_cons_succ, i64_w, i32_w]; rfl))
          (refine pure_ (i := 17) (N := some 36) (v := ?_) (a' := ?_) (fl_ 20 524287) rfl rfl (any_of HT_.out (by kernel_rfl)) (fun _ _ _ h => h) (Or.inl ⟨by rfl, ?_⟩) ?_ ?_; rotate_left; (· (intro w'; go_simp; with_reducible rfl)); rotate_left; (· (simp only [Act.put, List.setIfInBounds_toArray, List.set_cons_zero, List.set_cons_succ, i64_w, i32_w]; rfl)))
          exact norm_ (by simp only [putAll, Act.put, List.setIfInBounds_toArray, List.set_cons_zero, List.set_cons_succ]) (hCont _ _ ⟨hgz, hge, hce⟩)
      rintro g2 w9 ⟨hgz, hge, hce⟩
      refine norm_ (a' := ?_) ?_ ?_; rotate_left; (· (simp only [putAll, Act.put, List.setIfInBounds_toArray, List.set_cons_zero, List.set_cons_succ]; rfl))
      refine one_ (i := 19) (N := none) (fl_ 20 1048575) rfl rfl (one_of HT_.out (by kernel_rfl)) (by decide) (fun K hK => ?_)
      refine store_row_step (by rfl) rfl rfl g2 rfl #[.string a0_1, .string a0_2, .string a0_3, .string a0_4, .string x4, .string x5, .string x6] rfl hgz (by kernel_rfl) rfl (by first | kernel_rfl | simp [Value.oneCell']) ?_
      have hce' := CE.setRow (cs' := #[.string a0_1, .string a0_2, .string a0_3, .string a0_4, .string x4, .string x5, .string x6]) hce hgz hge (by decide) (by decide)
      have hgw := setRow_heap _ _ _ (#[.string a0_1, .string a0_2, .string a0_3, .string a0_4, .string x4, .string x5, .string x6] : Array Value) _ _ hgz
      clear hce
      have hce := hce'
      clear hce'
      refine hK.out _ _ ⟨(blk_cell hce.blk 0).trans rfl, (blk_cell hce.blk 1).trans rfl, (blk_cell hce.blk 2).trans rfl, (blk_cell hce.blk 3).trans rfl, (blk_cell hce.blk 4).trans rfl, (blk_cell hce.blk 5).trans rfl, (blk_cell hce.blk 6).trans rfl, (blk_cell hce.blk 7).trans rfl⟩ (fun hHeld => ?_)
      clear hK K
      refine done_ (done_of HT_.out (by kernel_rfl)) ?_
      try go_wp2
      go_meet
      case rel => exact ⟨g2, rfl, Lib.hid hgw, Lib.hid hce⟩
    case rest =>
      clear HT4 HT5 HT6
      clear HC0
      obtain ⟨g2, rfl, HB2, HCE⟩ := hcut
      have ix0 : ∀ W, (Instr.index 43 (.agg #[.string a0_1, .string a0_2, .string a0_3, .string a0_4, .string x4, .string x5, .string x6]) (.int .i64 0)).run Tryd.prog W = .ok (.string a0_1) W := fun _ => by kernel_rfl
      have ix1 : ∀ W, (Instr.index 43 (.agg #[.string a0_1, .string a0_2, .string a0_3, .string a0_4, .string x4, .string x5, .string x6]) (.int .i64 1)).run Tryd.prog W = .ok (.string a0_2) W := fun _ => by kernel_rfl
      have ix2 : ∀ W, (Instr.index 43 (.agg #[.string a0_1, .string a0_2, .string a0_3, .string a0_4, .string x4, .string x5, .string x6]) (.int .i64 2)).run Tryd.prog W = .ok (.string a0_3) W := fun _ => by kernel_rfl
      have ix3 : ∀ W, (Instr.index 43 (.agg #[.string a0_1, .string a0_2, .string a0_3, .string a0_4, .string x4, .string x5, .string x6]) (.int .i64 3)).run Tryd.prog W = .ok (.string a0_4) W := fun _ => by kernel_rfl
      have ix4 : ∀ W, (Instr.index 43 (.agg #[.string a0_1, .string a0_2, .string a0_3, .string a0_4, .string x4, .string x5, .string x6]) (.int .i64 4)).run Tryd.prog W = .ok (.string x4) W := fun _ => by kernel_rfl
      have ix5 : ∀ W, (Instr.index 43 (.agg #[.string a0_1, .string a0_2, .string a0_3, .string a0_4, .string x4, .string x5, .string x6]) (.int .i64 5)).run Tryd.prog W = .ok (.string x5) W := fun _ => by kernel_rfl
      have ix6 : ∀ W, (Instr.index 43 (.agg #[.string a0_1, .string a0_2, .string a0_3, .string a0_4, .string x4, .string x5, .string x6]) (.int .i64 6)).run Tryd.prog W = .ok (.string x6) W := fun _ => by kernel_rfl
      go_wp2_with (refine wpList_load_row rfl 43 _ rfl g2 rfl 43 _ (0, 0) _ HB2.out Tryd.underlying43 rfl (by kernel_rfl) ?_)
      clear HB2
      go_loopw [5, 38] (fun v5 i wr => ∃ (k : Nat) (xs : List ByteArray), k ≤ 7 ∧ i = .int .i64 k ∧ Hid (xs = fo :: wt k) ∧ Hid (CE w #[.int .i64 a0_0, .string a0_1, .string a0_2, .string a0_3, .string a0_4, .int .i64 a0_5, .int .i64 a0_6, .int .u64 a0_7] v5 xs wr)) (fun _ i _ => 7 - (intOf i).toNat)
      case atStart => exact ⟨0, _, Nat.zero_le _, rfl, Lib.hid (by rw [HW1.out]), HCE⟩
      case round =>
        clear HCE
        obtain ⟨k, xs, hk, rfl, HX, HCE⟩ := hrel
        have hkc : k = 7 ∨ k = 0 ∨ k = 1 ∨ k = 2 ∨ k = 3 ∨ k = 4 ∨ k = 5 ∨ k = 6 := by omega
        clear hk
        rcases hkc with rfl | rfl | rfl | rfl | rfl | rfl | rfl | rfl
        · obtain ⟨A, c, hu, hc, hC⟩ := Kd.R_reads HCE.out.row
          subst hu
          obtain ⟨J, hJ⟩ : ∃ J, J = joinB (fo :: wt 7) ⟨#[32]⟩ := ⟨_, rfl⟩
          have hjf : wire_joined.f xs = some J := by rw [HX.out, hJ]; exact joined_some fo (wt 7) (Nat.le_trans (HWL.out 7) (by decide)) (Nat.le_trans HFB.out (by decide)) (HWB.out 7)
          have HJ : Hid (Calls Tryd.prog 23 #[.slice A xs.length c] wr fun e w' => e = .returned (.string J) ∧ Below wr.heap.size wr w') := Lib.hid (wire_joined.calls A c xs J wr HCE.out.glob hC hc hjf)
          have HJ1 := Lib.hid hJ; clear hJ hjf hc hC
          have kb := fun W => print_bytes (P := Tryd.prog) 9 26 5 Tryd.underlying9 Tryd.underlying26 Tryd.underlying5 J W
          go_wp2_with (go_at_call 23; refine (HJ.out).mono ?_; rintro e w5 ⟨rfl, hb⟩; have HB5 := Lib.hid hb; clear hb)
          go_ret2
          rw [← HJ1.out]
          refine ⟨some ⟨w5.heap.size, 0, none⟩, grownCap w5 J.size 0 5, by rw [bytesOf_length]; rfl, ?_, ?_, ?_⟩
          · rw [bytesOf_length]; exact grownCap_ge w5 J.size 0 _
          · rw [bytesOf_length]; exact Kd.C_of_reads (enc := Value.int .u8) (d := (0 : Int)) (h1 := fun _ => rfl) (bytes_reads w5 _ J (by rw [HJ1.out, ← size_len]; exact join7 HFB.out (HWL.out 7) (HWB.out 7)))
          · have h5 := HCE.out.below; exact (below_then h5 h5.size HB5.out).trans ⟨rfl, rfl, rfl, by rw [Lib.bytesWorld_size]; omega, fun i hi => Lib.bytesWorld_at_old w5 _ J i (by have := h5.size; have := HB5.out.size; omega)⟩
        · obtain ⟨h, hh⟩ : ∃ h, hasW a0_0 0 = h := ⟨_, rfl⟩
          have t1 : (bits .and .i64 K 1 != 0) = h := by have := HM.out 0 (by omega); rw [hh] at this; exact this
          have hwn := HWN.out 0; rw [hh] at hwn
          have hce := HCE.out
          have c0 : wr.cell? ⟨w.heap.size, 0, none⟩ = some (.int .i64 a0_0) := (blk_cell hce.blk 0).trans rfl
          have HGL := Lib.hid hce.glob
          have HWN1 := Lib.hid hwn; clear hwn hce hh
          have HCN := fun n => Lib.hid (HCE.out.step (pw_below_drewN (Below.refl _ wr) n))
          have HXL : Hid (xs.length ≤ 8) := Lib.hid (by rw [HX.out]; have := HWL.out 0; simp only [List.length_cons]; omega)
          cases h with
          | true =>
            go_wp2
            go_quiet ((go_at_call 22; exact Calls.quiet_of ((HD.out _ (HGL.out.drewN _)).mono (fun e w' h => ⟨h.1, h.2.out⟩))))
            go_wp2_with ((with_reducible refine gate_builtin (b := .append) (xs := #[.tmp 49, .tmp 51]) rfl ?_); at_builtin; refine Kd.R_append Kd.string (w0 := w) w.heap.size rfl (.tmp 49) (.tmp 51) 40 9 (.string ⟨#[]⟩) 16 rfl Tryd.underlying40 info9 rfl (by decide) (by omega) u5 xs (a0_1) [.string (a0_1)] (fun _ => True) (fun _ => False) rfl rfl ?aP (fun _ hk => hk.elim) ?aF ?aO ?aB ?aS ?aL ?_; (case aP => exact rfl); (case aB => exact (HCN _).out.below); (case aF => exact (fun _ _ => trivial)); (case aO => exact (HCN _).out.row); (case aS => exact (HCN _).out.below.size); (case aL => have := HXL.out; omega); intro v1 w7 ho hb hg hat; have HC2 := Lib.hid (CE.grown (HCN _).out hg hb ho); clear ho hb hg hat)
            go_roundw
            case rel => exact ⟨1, _, by omega, by go_num, Lib.hid (by rw [HX.out, HWN1.out]; rfl), HC2⟩
            case measure => simp [intOf]
          | false =>
            go_wp2
            go_quiet ((go_at_call 22; exact Calls.quiet_of ((HD.out _ (HGL.out.drewN _)).mono (fun e w' h => ⟨h.1, h.2.out⟩))))
            go_wp2
            go_roundw
            case rel => exact ⟨1, xs, by omega, by go_num, Lib.hid (by rw [HX.out, HWN1.out]; simp), HCN _⟩
            case measure => simp [intOf]
        · obtain ⟨h, hh⟩ : ∃ h, hasW a0_0 1 = h := ⟨_, rfl⟩
          have t1 : (bits .and .i64 K 2 != 0) = h := by have := HM.out 1 (by omega); rw [hh] at this; exact this
          have hwn := HWN.out 1; rw [hh] at hwn
          have hce := HCE.out
          have c0 : wr.cell? ⟨w.heap.size, 0, none⟩ = some (.int .i64 a0_0) := (blk_cell hce.blk 0).trans rfl
          have HGL := Lib.hid hce.glob
          have HWN1 := Lib.hid hwn; clear hwn hce hh
          have HCN := fun n => Lib.hid (HCE.out.step (pw_below_drewN (Below.refl _ wr) n))
          have HXL : Hid (xs.length ≤ 8) := Lib.hid (by rw [HX.out]; have := HWL.out 1; simp only [List.length_cons]; omega)
          cases h with
          | true =>
            go_wp2
            go_quiet ((go_at_call 22; exact Calls.quiet_of ((HD.out _ (HGL.out.drewN _)).mono (fun e w' h => ⟨h.1, h.2.out⟩))))
            go_wp2_with ((with_reducible refine gate_builtin (b := .append) (xs := #[.tmp 49, .tmp 51]) rfl ?_); at_builtin; refine Kd.R_append Kd.string (w0 := w) w.heap.size rfl (.tmp 49) (.tmp 51) 40 9 (.string ⟨#[]⟩) 16 rfl Tryd.underlying40 info9 rfl (by decide) (by omega) u5 xs (a0_2) [.string (a0_2)] (fun _ => True) (fun _ => False) rfl rfl ?aP (fun _ hk => hk.elim) ?aF ?aO ?aB ?aS ?aL ?_; (case aP => exact rfl); (case aB => exact (HCN _).out.below); (case aF => exact (fun _ _ => trivial)); (case aO => exact (HCN _).out.row); (case aS => exact (HCN _).out.below.size); (case aL => have := HXL.out; omega); intro v1 w7 ho hb hg hat; have HC2 := Lib.hid (CE.grown (HCN _).out hg hb ho); clear ho hb hg hat)
            go_roundw
            case rel => exact ⟨2, _, by omega, by go_num, Lib.hid (by rw [HX.out, HWN1.out]; rfl), HC2⟩
            case measure => simp [intOf]
          | false =>
            go_wp2
            go_quiet ((go_at_call 22; exact Calls.quiet_of ((HD.out _ (HGL.out.drewN _)).mono (fun e w' h => ⟨h.1, h.2.out⟩))))
            go_wp2
            go_roundw
            case rel => exact ⟨2, xs, by omega, by go_num, Lib.hid (by rw [HX.out, HWN1.out]; simp), HCN _⟩
            case measure => simp [intOf]
        · obtain ⟨h, hh⟩ : ∃ h, hasW a0_0 2 = h := ⟨_, rfl⟩
          have t1 : (bits .and .i64 K 4 != 0) = h := by have := HM.out 2 (by omega); rw [hh] at this; exact this
          have hwn := HWN.out 2; rw [hh] at hwn
          have hce := HCE.out
          have c0 : wr.cell? ⟨w.heap.size, 0, none⟩ = some (.int .i64 a0_0) := (blk_cell hce.blk 0).trans rfl
          have HGL := Lib.hid hce.glob
          have HWN1 := Lib.hid hwn; clear hwn hce hh
          have HCN := fun n => Lib.hid (HCE.out.step (pw_below_drewN (Below.refl _ wr) n))
          have HXL : Hid (xs.length ≤ 8) := Lib.hid (by rw [HX.out]; have := HWL.out 2; simp only [List.length_cons]; omega)
          cases h with
          | true =>
            go_wp2
            go_quiet ((go_at_call 22; exact Calls.quiet_of ((HD.out _ (HGL.out.drewN _)).mono (fun e w' h => ⟨h.1, h.2.out⟩))))
            go_wp2_with ((with_reducible refine gate_builtin (b := .append) (xs := #[.tmp 49, .tmp 51]) rfl ?_); at_builtin; refine Kd.R_append Kd.string (w0 := w) w.heap.size rfl (.tmp 49) (.tmp 51) 40 9 (.string ⟨#[]⟩) 16 rfl Tryd.underlying40 info9 rfl (by decide) (by omega) u5 xs (a0_3) [.string (a0_3)] (fun _ => True) (fun _ => False) rfl rfl ?aP (fun _ hk => hk.elim) ?aF ?aO ?aB ?aS ?aL ?_; (case aP => exact rfl); (case aB => exact (HCN _).out.below); (case aF => exact (fun _ _ => trivial)); (case aO => exact (HCN _).out.row); (case aS => exact (HCN _).out.below.size); (case aL => have := HXL.out; omega); intro v1 w7 ho hb hg hat; have HC2 := Lib.hid (CE.grown (HCN _).out hg hb ho); clear ho hb hg hat)
            go_roundw
            case rel => exact ⟨3, _, by omega, by go_num, Lib.hid (by rw [HX.out, HWN1.out]; rfl), HC2⟩
            case measure => simp [intOf]
          | false =>
            go_wp2
            go_quiet ((go_at_call 22; exact Calls.quiet_of ((HD.out _ (HGL.out.drewN _)).mono (fun e w' h => ⟨h.1, h.2.out⟩))))
            go_wp2
            go_roundw
            case rel => exact ⟨3, xs, by omega, by go_num, Lib.hid (by rw [HX.out, HWN1.out]; simp), HCN _⟩
            case measure => simp [intOf]
        · obtain ⟨h, hh⟩ : ∃ h, hasW a0_0 3 = h := ⟨_, rfl⟩
          have t1 : (bits .and .i64 K 8 != 0) = h := by have := HM.out 3 (by omega); rw [hh] at this; exact this
          have hwn := HWN.out 3; rw [hh] at hwn
          have hce := HCE.out
          have c0 : wr.cell? ⟨w.heap.size, 0, none⟩ = some (.int .i64 a0_0) := (blk_cell hce.blk 0).trans rfl
          have HGL := Lib.hid hce.glob
          have HWN1 := Lib.hid hwn; clear hwn hce hh
          have HCN := fun n => Lib.hid (HCE.out.step (pw_below_drewN (Below.refl _ wr) n))
          have HXL : Hid (xs.length ≤ 8) := Lib.hid (by rw [HX.out]; have := HWL.out 3; simp only [List.length_cons]; omega)
          cases h with
          | true =>
            go_wp2
            go_quiet ((go_at_call 22; exact Calls.quiet_of ((HD.out _ (HGL.out.drewN _)).mono (fun e w' h => ⟨h.1, h.2.out⟩))))
            go_wp2_with ((with_reducible refine gate_builtin (b := .append) (xs := #[.tmp 49, .tmp 51]) rfl ?_); at_builtin; refine Kd.R_append Kd.string (w0 := w) w.heap.size rfl (.tmp 49) (.tmp 51) 40 9 (.string ⟨#[]⟩) 16 rfl Tryd.underlying40 info9 rfl (by decide) (by omega) u5 xs (a0_4) [.string (a0_4)] (fun _ => True) (fun _ => False) rfl rfl ?aP (fun _ hk => hk.elim) ?aF ?aO ?aB ?aS ?aL ?_; (case aP => exact rfl); (case aB => exact (HCN _).out.below); (case aF => exact (fun _ _ => trivial)); (case aO => exact (HCN _).out.row); (case aS => exact (HCN _).out.below.size); (case aL => have := HXL.out; omega); intro v1 w7 ho hb hg hat; have HC2 := Lib.hid (CE.grown (HCN _).out hg hb ho); clear ho hb hg hat)
            go_roundw
            case rel => exact ⟨4, _, by omega, by go_num, Lib.hid (by rw [HX.out, HWN1.out]; rfl), HC2⟩
            case measure => simp [intOf]
          | false =>
            go_wp2
            go_quiet ((go_at_call 22; exact Calls.quiet_of ((HD.out _ (HGL.out.drewN _)).mono (fun e w' h => ⟨h.1, h.2.out⟩))))
            go_wp2
            go_roundw
            case rel => exact ⟨4, xs, by omega, by go_num, Lib.hid (by rw [HX.out, HWN1.out]; simp), HCN _⟩
            case measure => simp [intOf]
        · obtain ⟨h, hh⟩ : ∃ h, hasW a0_0 4 = h := ⟨_, rfl⟩
          have t1 : (bits .and .i64 K 16 != 0) = h := by have := HM.out 4 (by omega); rw [hh] at this; exact this
          have hwn := HWN.out 4; rw [hh] at hwn
          have hce := HCE.out
          have c0 : wr.cell? ⟨w.heap.size, 0, none⟩ = some (.int .i64 a0_0) := (blk_cell hce.blk 0).trans rfl
          have HGL := Lib.hid hce.glob
          have HWN1 := Lib.hid hwn; clear hwn hce hh
          have HCN := fun n => Lib.hid (HCE.out.step (pw_below_drewN (Below.refl _ wr) n))
          have HXL : Hid (xs.length ≤ 8) := Lib.hid (by rw [HX.out]; have := HWL.out 4; simp only [List.length_cons]; omega)
          cases h with
          | true =>
            go_wp2
            go_quiet ((go_at_call 22; exact Calls.quiet_of ((HD.out _ (HGL.out.drewN _)).mono (fun e w' h => ⟨h.1, h.2.out⟩))))
            go_wp2_with ((with_reducible refine gate_builtin (b := .append) (xs := #[.tmp 49, .tmp 51]) rfl ?_); at_builtin; refine Kd.R_append Kd.string (w0 := w) w.heap.size rfl (.tmp 49) (.tmp 51) 40 9 (.string ⟨#[]⟩) 16 rfl Tryd.underlying40 info9 rfl (by decide) (by omega) u5 xs (x4) [.string (x4)] (fun _ => True) (fun _ => False) rfl rfl ?aP (fun _ hk => hk.elim) ?aF ?aO ?aB ?aS ?aL ?_; (case aP => exact rfl); (case aB => exact (HCN _).out.below); (case aF => exact (fun _ _ => trivial)); (case aO => exact (HCN _).out.row); (case aS => exact (HCN _).out.below.size); (case aL => have := HXL.out; omega); intro v1 w7 ho hb hg hat; have HC2 := Lib.hid (CE.grown (HCN _).out hg hb ho); clear ho hb hg hat)
            go_roundw
            case rel => exact ⟨5, _, by omega, by go_num, Lib.hid (by rw [HX.out, HWN1.out]; rfl), HC2⟩
            case measure => simp [intOf]
          | false =>
            go_wp2
            go_quiet ((go_at_call 22; exact Calls.quiet_of ((HD.out _ (HGL.out.drewN _)).mono (fun e w' h => ⟨h.1, h.2.out⟩))))
            go_wp2
            go_roundw
            case rel => exact ⟨5, xs, by omega, by go_num, Lib.hid (by rw [HX.out, HWN1.out]; simp), HCN _⟩
            case measure => simp [intOf]
        · obtain ⟨h, hh⟩ : ∃ h, hasW a0_0 5 = h := ⟨_, rfl⟩
          have t1 : (bits .and .i64 K 32 != 0) = h := by have := HM.out 5 (by omega); rw [hh] at this; exact this
          have hwn := HWN.out 5; rw [hh] at hwn
          have hce := HCE.out
          have c0 : wr.cell? ⟨w.heap.size, 0, none⟩ = some (.int .i64 a0_0) := (blk_cell hce.blk 0).trans rfl
          have HGL := Lib.hid hce.glob
          have HWN1 := Lib.hid hwn; clear hwn hce hh
          have HCN := fun n => Lib.hid (HCE.out.step (pw_below_drewN (Below.refl _ wr) n))
          have HXL : Hid (xs.length ≤ 8) := Lib.hid (by rw [HX.out]; have := HWL.out 5; simp only [List.length_cons]; omega)
          cases h with
          | true =>
            go_wp2
            go_quiet ((go_at_call 22; exact Calls.quiet_of ((HD.out _ (HGL.out.drewN _)).mono (fun e w' h => ⟨h.1, h.2.out⟩))))
            go_wp2_with ((with_reducible refine gate_builtin (b := .append) (xs := #[.tmp 49, .tmp 51]) rfl ?_); at_builtin; refine Kd.R_append Kd.string (w0 := w) w.heap.size rfl (.tmp 49) (.tmp 51) 40 9 (.string ⟨#[]⟩) 16 rfl Tryd.underlying40 info9 rfl (by decide) (by omega) u5 xs (x5) [.string (x5)] (fun _ => True) (fun _ => False) rfl rfl ?aP (fun _ hk => hk.elim) ?aF ?aO ?aB ?aS ?aL ?_; (case aP => exact rfl); (case aB => exact (HCN _).out.below); (case aF => exact (fun _ _ => trivial)); (case aO => exact (HCN _).out.row); (case aS => exact (HCN _).out.below.size); (case aL => have := HXL.out; omega); intro v1 w7 ho hb hg hat; have HC2 := Lib.hid (CE.grown (HCN _).out hg hb ho); clear ho hb hg hat)
            go_roundw
            case rel => exact ⟨6, _, by omega, by go_num, Lib.hid (by rw [HX.out, HWN1.out]; rfl), HC2⟩
            case measure => simp [intOf]
          | false =>
            go_wp2
            go_quiet ((go_at_call 22; exact Calls.quiet_of ((HD.out _ (HGL.out.drewN _)).mono (fun e w' h => ⟨h.1, h.2.out⟩))))
            go_wp2
            go_roundw
            case rel => exact ⟨6, xs, by omega, by go_num, Lib.hid (by rw [HX.out, HWN1.out]; simp), HCN _⟩
            case measure => simp [intOf]
        · obtain ⟨h, hh⟩ : ∃ h, hasW a0_0 6 = h := ⟨_, rfl⟩
          have t1 : (bits .and .i64 K 64 != 0) = h := by have := HM.out 6 (by omega); rw [hh] at this; exact this
          have hwn := HWN.out 6; rw [hh] at hwn
          have hce := HCE.out
          have c0 : wr.cell? ⟨w.heap.size, 0, none⟩ = some (.int .i64 a0_0) := (blk_cell hce.blk 0).trans rfl
          have HGL := Lib.hid hce.glob
          have HWN1 := Lib.hid hwn; clear hwn hce hh
          have HCN := fun n => Lib.hid (HCE.out.step (pw_below_drewN (Below.refl _ wr) n))
          have HXL : Hid (xs.length ≤ 8) := Lib.hid (by rw [HX.out]; have := HWL.out 6; simp only [List.length_cons]; omega)
          cases h with
          | true =>
            go_wp2
            go_quiet ((go_at_call 22; exact Calls.quiet_of ((HD.out _ (HGL.out.drewN _)).mono (fun e w' h => ⟨h.1, h.2.out⟩))))
            go_wp2_with ((with_reducible refine gate_builtin (b := .append) (xs := #[.tmp 49, .tmp 51]) rfl ?_); at_builtin; refine Kd.R_append Kd.string (w0 := w) w.heap.size rfl (.tmp 49) (.tmp 51) 40 9 (.string ⟨#[]⟩) 16 rfl Tryd.underlying40 info9 rfl (by decide) (by omega) u5 xs (x6) [.string (x6)] (fun _ => True) (fun _ => False) rfl rfl ?aP (fun _ hk => hk.elim) ?aF ?aO ?aB ?aS ?aL ?_; (case aP => exact rfl); (case aB => exact (HCN _).out.below); (case aF => exact (fun _ _ => trivial)); (case aO => exact (HCN _).out.row); (case aS => exact (HCN _).out.below.size); (case aL => have := HXL.out; omega); intro v1 w7 ho hb hg hat; have HC2 := Lib.hid (CE.grown (HCN _).out hg hb ho); clear ho hb hg hat)
            go_roundw
            case rel => exact ⟨7, _, by omega, by go_num, Lib.hid (by rw [HX.out, HWN1.out]; rfl), HC2⟩
            case measure => simp [intOf]
          | false =>
            go_wp2
            go_quiet ((go_at_call 22; exact Calls.quiet_of ((HD.out _ (HGL.out.drewN _)).mono (fun e w' h => ⟨h.1, h.2.out⟩))))
            go_wp2
            go_roundw
            case rel => exact ⟨7, xs, by omega, by go_num, Lib.hid (by rw [HX.out, HWN1.out]; simp), HCN _⟩
            case measure => simp [intOf]
set_option maxHeartbeats 4000000 in
set_option maxRecDepth 100000 in
theorem wire_Encode_no (a0_0 : Int) (a0_1 : ByteArray) (a0_2 : ByteArray) (a0_3 : ByteArray) (a0_4 : ByteArray) (a0_5 : Int) (a0_6 : Int) (a0_7 : Int) (w : World) (hG : Glob w) (hs : fewS a0_1 a0_2 a0_3 a0_4) (hok : okCmd a0_0 a0_1 a0_2 a0_3 a0_4 a0_5 a0_6 a0_7 = false) :
    Calls Tryd.prog 11 #[.agg #[.int .i64 a0_0, .string a0_1, .string a0_2, .string a0_3, .string a0_4, .int .i64 a0_5, .int .i64 a0_6, .int .u64 a0_7]] w (EncRet w ⟨#[]⟩ 200) := by
  have HC : Hid (∀ W, Glob W → Calls Tryd.prog 15 #[.agg #[.int .i64 a0_0, .string a0_1, .string a0_2, .string a0_3, .string a0_4, .int .i64 a0_5, .int .i64 a0_6, .int .u64 a0_7]] W fun e w' => e = .returned (.int .i64 200) ∧ Below W.heap.size W w') := Lib.hid fun W hW => wire_Check.calls _ _ _ _ _ _ _ _ 200 W hW (by unfold wire_Check.f; rw [if_pos hs, hok]; rfl)
  have hci := CI.start (cs := #[.int .i64 a0_0, .string a0_1, .string a0_2, .string a0_3, .string a0_4, .int .i64 a0_5, .int .i64 a0_6, .int .u64 a0_7]) hG
  clear hG hs hok
  go_enter Tryd.func11, Tryd.ntmps11
  go_wp2_with (go_at_call 15; refine (HC.out _ hci.glob).mono ?_; rintro e w1 ⟨rfl, hb⟩; replace hci := hci.step hb; clear hb)
  go_ret2
  exact ⟨none, 0, rfl, Nat.le_refl _, ⟨rfl, by simp [bytesOf], fun h => by simp [bytesOf] at h⟩, hci.below⟩
theorem wire_Encode.calls (k : Int) (rq wh sc mk : ByteArray) (pr am nu : Int) (w : World) (hG : Glob w) (hs : fewS rq wh sc mk) (h7 : 0 ≤ nu) :
    Calls Tryd.prog 11 #[.agg #[.int .i64 k, .string rq, .string wh, .string sc, .string mk, .int .i64 pr, .int .i64 am, .int .u64 nu]] w (EncRet w (if okCmd k rq wh sc mk pr am nu then encB k rq wh sc mk pr am nu else ⟨#[]⟩) (if okCmd k rq wh sc mk pr am nu then 0 else 200)) := by
  cases hok : okCmd k rq wh sc mk pr am nu with
  | true =>
    have h := wire_Encode_ok k rq wh sc mk pr am nu w hG hs h7 hok
    rw [enc_text] at h
    exact h
  | false => exact wire_Encode_no k rq wh sc mk pr am nu w hG hs hok
end Go.Proofs.YtdpdbmdnmgaeiaaDoor.E

