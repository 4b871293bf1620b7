/- A command's bytes are taken apart as the command; unlike commands have unlike bytes. -/
import Derived.Test.YtdpdbmdnmgaeiaaDoorNext
namespace Go.Proofs.YtdpdbmdnmgaeiaaDoor.E
open Go.RowKit Go.Proofs.YtdpdbmdnmgaeiaaDoorW.PrintWords Go.Proofs.YtdpdbmdnmgaeiaaDoorW.PrintLast
theorem cut_none (x : List UInt8) (h : ∀ c ∈ x, c ≠ 32) : cutAt 32 x = [x] := by
  induction x with
  | nil => rfl
  | cons b l ih =>
    obtain ⟨y, t, e1, e2⟩ := cutAt_cons_ne (h b List.mem_cons_self) l
    rw [ih (fun c hc => h c (List.mem_cons_of_mem _ hc))] at e1
    obtain ⟨rfl, rfl⟩ := List.cons.inj e1
    exact e2
theorem cut_some (x r : List UInt8) (h : ∀ c ∈ x, c ≠ 32) : cutAt 32 (x ++ 32 :: r) = x :: cutAt 32 r := by
  induction x with
  | nil => exact cutAt_cons_eq 32 r
  | cons b l ih =>
    obtain ⟨y, t, e1, e2⟩ := cutAt_cons_ne (h b List.mem_cons_self) (l ++ 32 :: r)
    rw [ih (fun c hc => h c (List.mem_cons_of_mem _ hc))] at e1
    obtain ⟨rfl, rfl⟩ := List.cons.inj e1
    exact e2
theorem cut_join : ∀ (ws : List (List UInt8)) (x : List UInt8), (∀ c ∈ x, c ≠ 32) → (∀ y ∈ ws, ∀ c ∈ y, c ≠ 32) → cutAt 32 (x ++ Lib.joinTail [32] ws) = x :: ws
  | [], x, hx, _ => by
    rw [show Lib.joinTail [32] [] = [] from rfl, List.append_nil]
    exact cut_none x hx
  | y :: ws, x, hx, hy => by
    have e : Lib.joinTail [32] (y :: ws) = 32 :: (y ++ Lib.joinTail [32] ws) := by simp [Lib.joinTail]
    rw [e, cut_some x _ hx, cut_join ws y (hy y List.mem_cons_self) (fun z hz => hy z (List.mem_cons_of_mem _ hz))]
/-- Which bytes a word has. -/
def clean (s : ByteArray) : Prop := ∀ c ∈ s.data.toList, isSign c = true
theorem sign_ne {c : UInt8} (h : isSign c = true) : c ≠ 32 := by
  rintro rfl
  exact absurd h (by decide)
theorem up_sign (c : UInt8) (h : isUp c = true) : isSign c = true := by unfold isSign; simp [h]
theorem low_sign (c : UInt8) (h : isLow c = true) : isSign c = true := by unfold isSign; simp [h]
theorem dig_sign (c : UInt8) (h : isDig c = true) : isSign c = true := by unfold isSign; simp [h]
theorem part_all {p : UInt8 → Bool} {m : Int} {s : ByteArray} (h : isPart p m s = true) : (∀ c ∈ s.data.toList, p c = true) ∧ 1 ≤ s.size ∧ (s.size : Int) ≤ m := by
  unfold isPart at h
  simp only [Bool.and_eq_true, decide_eq_true_eq] at h
  exact ⟨List.all_eq_true.1 h.1, h.2⟩
theorem who_all {s : ByteArray} (h : isWho s = true) : clean s ∧ 1 ≤ s.size ∧ s.size ≤ 8 := by
  unfold isWho at h
  have hz := size_len s
  unfold clean
  cases e : s.data.toList with
  | nil => rw [e] at h; cases h
  | cons c t =>
    rw [e] at h hz
    simp only [Bool.and_eq_true, decide_eq_true_eq] at h
    simp only [List.length_cons] at hz
    refine ⟨fun x hx => ?_, by omega, by omega⟩
    rcases List.mem_cons.1 hx with rfl | hx
    · exact low_sign _ h.1.1
    · have := List.all_eq_true.1 h.1.2 x hx
      rcases Bool.or_eq_true_iff.1 this with h' | h'
      · exact low_sign _ h'
      · exact dig_sign _ h'
theorem ten_sign' {c : UInt8} (h : isTen c) : isSign c = true := dig_sign c (by unfold isDig; unfold isTen at h; simp [h.1, h.2])
theorem ten_text {n : Nat} (h : n < 100000000000000000000) : clean ⟨(decText n).toArray⟩ ∧ 1 ≤ (decText n).length ∧ (decText n).length ≤ 20 := by
  obtain ⟨h1, _, h3, h4⟩ := decText_facts n h
  refine ⟨fun c hc => ten_sign' (h1 c (by simpa using hc)), ?_, h4⟩
  cases e : decText n with
  | nil => exact absurd e h3
  | cons _ _ => simp
theorem dash_sign : isSign 45 = true := by decide
theorem int_text {v : Int} (h : in64 v) : clean ⟨(intText v).toArray⟩ ∧ 1 ≤ (intText v).length ∧ (intText v).length ≤ 21 := by
  have h1 := h.1
  have h2 := h.2
  unfold intText
  split
  · obtain ⟨a, b, c⟩ := ten_text (n := v.natAbs) (by omega)
    refine ⟨fun x hx => ?_, by simp, by simp only [List.length_cons]; omega⟩
    rcases List.mem_cons.1 (by simpa using hx : x ∈ (45 : UInt8) :: decText v.natAbs) with rfl | hx
    · exact dash_sign
    · exact a x (by simpa using hx)
  · obtain ⟨a, b, c⟩ := ten_text (n := v.toNat) (by omega)
    exact ⟨a, b, by omega⟩
theorem cut_bar (c : UInt8) : ∀ s : List UInt8, 0 ≤ Lib.index s [c] → s = s.take (Lib.index s [c]).toNat ++ c :: s.drop ((Lib.index s [c]).toNat + 1)
  | [], h => by simp [Lib.index] at h
  | b :: l, h => by
    by_cases hb : b = c
    · subst hb
      rw [index_one_eq]
      rfl
    · rw [index_one_ne hb] at h ⊢
      by_cases hm : Lib.index l [c] = -1
      · rw [if_pos hm] at h
        omega
      · rw [if_neg hm] at h ⊢
        have hg := Lib.index_ge l [c]
        have ih := cut_bar c l (by omega)
        have e : (Lib.index l [c] + 1).toNat = (Lib.index l [c]).toNat + 1 := by omega
        rw [e, List.take_succ_cons, List.drop_succ_cons, List.cons_append, ← ih]
theorem market_all {s : ByteArray} (h : isMarket s = true) : clean s ∧ 1 ≤ s.size ∧ s.size ≤ 13 := by
  unfold isMarket marketOf at h
  split at h
  case isFalse => exact absurd h (by decide)
  rename_i hc
  simp only [Bool.and_eq_true, Bool.not_eq_true'] at hc
  obtain ⟨⟨⟨h1, h2⟩, h3⟩, _⟩ := hc
  have hz := size_len s
  unfold Lib.cut at h1 h2 h3
  split at h1
  case isFalse => cases h1
  rename_i hi
  rw [if_pos hi] at h2 h3
  have e := cut_bar 45 s.data.toList hi
  obtain ⟨a1, a2, a3⟩ := part_all h2
  obtain ⟨b1, b2, b3⟩ := part_all h3
  simp only [List.length_singleton] at b1 b2 b3
  have q1 : ∀ l : List UInt8, (⟨l.toArray⟩ : ByteArray).size = l.length := fun l => by show l.toArray.size = _; simp
  rw [q1] at a2 a3 b2 b3
  dsimp only at a1 a2 a3
  refine ⟨fun c hc => ?_, ?_⟩
  · rw [e] at hc
    rcases List.mem_append.1 hc with hc | hc
    · exact up_sign c (a1 c (by simpa using hc))
    · rcases List.mem_cons.1 hc with rfl | hc
      · exact dash_sign
      · exact up_sign c (b1 c (by simpa using hc))
  · have := congrArg List.length e
    rw [List.length_append, List.length_cons] at this
    omega
theorem dec_short {n k : Nat} (hn : n < 10 ^ k) (hk : 0 < k) (h20 : n < 100000000000000000000) : (decText n).length ≤ k := by
  have e : decText n = decRec k n := by rw [decText_eq n h20, decRec_eq k n hn hk]
  rw [e]
  exact (decRec_facts k n hn hk).2.2.2
def mx (i : Nat) : Nat := [12, 8, 6, 13, 7, 13, 20].getD i 0
theorem size_mk (l : List UInt8) : (⟨l.toArray⟩ : ByteArray).size = l.length := by show l.toArray.size = _; simp
theorem int_small {v : Int} (h0 : 0 ≤ v) {k : Nat} (hv : v.toNat < 10 ^ k) (hk : 0 < k) (h : in64 v) : (⟨(intText v).toArray⟩ : ByteArray).size ≤ k := by
  have h2 := h.2
  rw [size_mk]
  unfold intText
  rw [if_neg (by omega)]
  exact dec_short hv hk (by omega)
section
variable {k : Int} {rq wh sc mk : ByteArray} {pr am nu : Int}
theorem ok_parts (h : okCmd k rq wh sc mk pr am nu = true) : (1 ≤ k ∧ k ≤ 13) ∧ ∀ i, i < 7 → okW k rq wh sc mk pr am nu i = true := by
  unfold okCmd at h
  simp only [Bool.and_eq_true, decide_eq_true_eq] at h
  exact ⟨h.1, fun i hi => List.all_eq_true.1 h.2 i (List.mem_range.2 hi)⟩
theorem may_of (h : okCmd k rq wh sc mk pr am nu = true) {i : Nat} (hi : i < 7) (hh : hasW k i = true) : mayW k rq wh sc mk pr am nu i = true := by
  have := (ok_parts h).2 i hi
  unfold okW at this
  rwa [hh, if_pos rfl] at this
theorem none_of (h : okCmd k rq wh sc mk pr am nu = true) {i : Nat} (hi : i < 7) (hh : hasW k i = false) : noneW rq wh sc mk pr am nu i = true := by
  have := (ok_parts h).2 i hi
  unfold okW at this
  rwa [hh, if_neg (by decide)] at this
theorem word_good (h : okCmd k rq wh sc mk pr am nu = true) (h7 : 0 ≤ nu) {i : Nat} (hi : i < 7) (hh : hasW k i = true) : clean (wordOf rq wh sc mk pr am nu i) ∧ 1 ≤ (wordOf rq wh sc mk pr am nu i).size ∧ (wordOf rq wh sc mk pr am nu i).size ≤ mx i := by
  have hm := may_of h hi hh
  obtain ⟨hk, n1, n2, n3⟩ := ok_numbers h
  have hi' : i = 0 ∨ i = 1 ∨ i = 2 ∨ i = 3 ∨ i = 4 ∨ i = 5 ∨ i = 6 := by omega
  rcases hi' with rfl | rfl | rfl | rfl | rfl | rfl | rfl
  · obtain ⟨a, b, c⟩ := part_all (p := isSign) hm
    exact ⟨a, b, by show rq.size ≤ 12; omega⟩
  · simp only [mayW, Bool.and_eq_true] at hm
    exact who_all hm.1
  · obtain ⟨a, b, c⟩ := part_all (p := isUp) hm
    exact ⟨fun x hx => up_sign x (a x hx), b, by show sc.size ≤ 6; omega⟩
  · exact market_all hm
  · simp only [mayW, Bool.and_eq_true, decide_eq_true_eq] at hm
    obtain ⟨a, b, c⟩ := int_text n1
    refine ⟨a, by show 1 ≤ (⟨(intText pr).toArray⟩ : ByteArray).size; rw [size_mk]; exact b, ?_⟩
    exact int_small (k := 7) (by omega) (by omega) (by omega) n1
  · simp only [mayW, Bool.and_eq_true, decide_eq_true_eq] at hm
    have hmo : mostOf k ≤ 1099511627776 := by unfold mostOf; split <;> omega
    obtain ⟨a, b, c⟩ := int_text n2
    refine ⟨a, by show 1 ≤ (⟨(intText am).toArray⟩ : ByteArray).size; rw [size_mk]; exact b, ?_⟩
    exact int_small (k := 13) (by omega) (by omega) (by omega) n2
  · obtain ⟨a, b, c⟩ := ten_text (n := nu.toNat) (by omega)
    exact ⟨a, by show 1 ≤ (⟨(decText nu.toNat).toArray⟩ : ByteArray).size; rw [size_mk]; exact b, by show (⟨(decText nu.toNat).toArray⟩ : ByteArray).size ≤ 20; rw [size_mk]; exact c⟩
theorem first_good (hk : 1 ≤ k ∧ k ≤ 13) : clean (firstOf k) ∧ 1 ≤ (firstOf k).size ∧ kindTo (firstOf k) 14 = k.toNat := by
  unfold clean
  rcases kind_cases (a := k) (by omega) with rfl | rfl | rfl | rfl | rfl | rfl | rfl | rfl | rfl | rfl | rfl | rfl | rfl | rfl
  · omega
  all_goals decide +kernel
theorem words_good (h : okCmd k rq wh sc mk pr am nu = true) (h7 : 0 ≤ nu) {n : Nat} (hn : n ≤ 7) : ∀ s ∈ wordsTo k rq wh sc mk pr am nu n, clean s := by
  intro s hs
  unfold wordsTo at hs
  obtain ⟨i, hi, rfl⟩ := List.mem_map.1 hs
  obtain ⟨h1, h2⟩ := List.mem_filter.1 hi
  exact (word_good h h7 (by have := List.mem_range.1 h1; omega) h2).1
theorem split_enc (h : okCmd k rq wh sc mk pr am nu = true) (h7 : 0 ≤ nu) : splitOn (encB k rq wh sc mk pr am nu) 32 = firstOf k :: wordsTo k rq wh sc mk pr am nu 7 := by
  apply map_data_inj
  have e : (splitOn (encB k rq wh sc mk pr am nu) 32).map (·.data.toList) = cutAt 32 (encB k rq wh sc mk pr am nu).data.toList := by simp [splitOn, List.map_map, Function.comp_def]
  rw [e]
  unfold encB
  rw [enc_join, cut_join _ _ (fun c hc => sign_ne ((first_good (ok_parts h).1).1 c hc)) (fun y hy c hc => ?_)]
  · rfl
  · obtain ⟨s, hs, rfl⟩ := List.mem_map.1 hy
    exact sign_ne (words_good h h7 (Nat.le_refl _) s hs c hc)
theorem words_more (n : Nat) : ∀ d, ∃ r, wordsTo k rq wh sc mk pr am nu (n + d) = wordsTo k rq wh sc mk pr am nu n ++ r
  | 0 => ⟨[], by simp⟩
  | d + 1 => by
    obtain ⟨r, e⟩ := words_more n d
    exact ⟨r ++ _, by rw [← Nat.add_assoc, words_next, e, List.append_assoc]⟩
theorem words_at {n : Nat} (hn : n < 7) (hh : hasW k n = true) : (wordsTo k rq wh sc mk pr am nu 7)[(wordsTo k rq wh sc mk pr am nu n).length]? = some (wordOf rq wh sc mk pr am nu n) := by
  obtain ⟨r, e⟩ := words_more (k := k) (rq := rq) (wh := wh) (sc := sc) (mk := mk) (pr := pr) (am := am) (nu := nu) (n + 1) (7 - (n + 1))
  rw [show n + 1 + (7 - (n + 1)) = 7 from by omega] at e
  rw [e, words_next, hh, if_pos rfl]
  simp
theorem st_enc (hk : 1 ≤ k ∧ k ≤ 13) {L : List ByteArray} (hL : L = firstOf k :: wordsTo k rq wh sc mk pr am nu 7) : ∀ n, n ≤ 7 → stTo L k n = (1 + (wordsTo k rq wh sc mk pr am nu n).length, false)
  | 0, _ => by
    have : (k == 0) = false := by rw [beq_eq_false_iff_ne]; omega
    show (1, k == 0) = _
    rw [this]
    rfl
  | n + 1, hn => by
    have ih := st_enc hk hL n (by omega)
    show (nextS L (hasW k n) (stTo L k n)).2 = _
    rw [ih, words_next]
    cases hh : hasW k n with
    | false => simp [nextS]
    | true =>
      have ha := words_at (rq := rq) (wh := wh) (sc := sc) (mk := mk) (pr := pr) (am := am) (nu := nu) (by omega) hh
      have hlt := (List.getElem?_eq_some_iff.1 ha).1
      have hl : L.length = 1 + (wordsTo k rq wh sc mk pr am nu 7).length := by rw [hL, List.length_cons]; omega
      simp only [nextS, if_true, Bool.true_and, Bool.false_or, List.length_append, List.length_singleton]
      rw [decide_eq_false (by omega), Nat.min_eq_left (by omega)]
      rfl
theorem wd_enc (hk : 1 ≤ k ∧ k ≤ 13) {L : List ByteArray} (hL : L = firstOf k :: wordsTo k rq wh sc mk pr am nu 7) {n : Nat} (hn : n < 7) : wdAt L k n = if hasW k n then wordOf rq wh sc mk pr am nu n else ByteArray.empty := by
  unfold wdAt
  rw [st_enc hk hL n (by omega)]
  cases hh : hasW k n with
  | false => rfl
  | true =>
    have ha := words_at (rq := rq) (wh := wh) (sc := sc) (mk := mk) (pr := pr) (am := am) (nu := nu) hn hh
    simp only [nextS, if_true]
    rw [hL, List.getD_eq_getElem?_getD, Nat.add_comm 1, List.getElem?_cons_succ, ha]
    rfl
theorem empty_of {s : ByteArray} (h : (s.toList == []) = true) : s = ByteArray.empty := by
  apply text_ext
  rw [← toList_data]
  simpa using h
theorem amt_empty : amtOf ByteArray.empty = 0 := by decide +kernel
theorem amt_int {v : Int} (h : in64 v) : amtOf ⟨(intText v).toArray⟩ = v := by
  unfold amtOf
  show (parseOf (intText v).toArray.toList).1 = v
  rw [List.toList_toArray, parseOf_text h]
theorem cand_enc (h : okCmd k rq wh sc mk pr am nu = true) (h7 : 0 ≤ nu) {L : List ByteArray} (hL : L = firstOf k :: wordsTo k rq wh sc mk pr am nu 7) : candL L = ⟨k, rq, wh, sc, mk, pr, am, nu⟩ ∧ wrongL L = false := by
  obtain ⟨hk, n1, n2, n3⟩ := ok_numbers h
  have hK : kindOf L = k := by
    unfold kindOf
    rw [hL, List.getD_cons_zero, (first_good hk).2.2]
    omega
  have w := fun n hn => wd_enc hk hL (n := n) hn
  have tx : ∀ i, i < 4 → (if hasW k i then wordOf rq wh sc mk pr am nu i else ByteArray.empty) = wordOf rq wh sc mk pr am nu i := fun i hi => by
    cases hh : hasW k i with
    | true => rfl
    | false =>
      have hn := none_of h (by omega : i < 7) hh
      have hi' : i = 0 ∨ i = 1 ∨ i = 2 ∨ i = 3 := by omega
      rcases hi' with rfl | rfl | rfl | rfl
      · exact (empty_of (s := rq) hn).symm
      · exact (empty_of (s := wh) hn).symm
      · exact (empty_of (s := sc) hn).symm
      · exact (empty_of (s := mk) hn).symm
  refine ⟨?_, ?_⟩
  · unfold candL
    rw [hK, w 0 (by omega), w 1 (by omega), w 2 (by omega), w 3 (by omega), tx 0 (by omega), tx 1 (by omega), tx 2 (by omega), tx 3 (by omega)]
    have e4 : amtOf (wdAt L k 4) = pr := by
      rw [w 4 (by omega)]
      cases hh : hasW k 4 with
      | true => exact amt_int n1
      | false =>
        have hn := none_of h (by omega : 4 < 7) hh
        simp only [noneW, beq_iff_eq] at hn
        rw [hn]
        exact amt_empty
    have e5 : amtOf (wdAt L k 5) = am := by
      rw [w 5 (by omega)]
      cases hh : hasW k 5 with
      | true => exact amt_int n2
      | false =>
        have hn := none_of h (by omega : 5 < 7) hh
        simp only [noneW, beq_iff_eq] at hn
        rw [hn]
        exact amt_empty
    have e6 : amtOf (wdAt L k 6) = nu := by
      rw [w 6 (by omega)]
      cases hh : hasW k 6 with
      | true =>
        have e : (⟨(decText nu.toNat).toArray⟩ : ByteArray) = ⟨(intText nu).toArray⟩ := by unfold intText; rw [if_neg (by omega)]
        show amtOf ⟨(decText nu.toNat).toArray⟩ = nu
        rw [e]
        exact amt_int ⟨by omega, by omega⟩
      | false =>
        have hn := none_of h (by omega : 6 < 7) hh
        simp only [noneW, beq_iff_eq] at hn
        rw [hn]
        exact amt_empty
    rw [e4, e5, e6, IntKind.wrap_u64]
    have : nu % 18446744073709551616 = nu := by omega
    rw [this]
    rfl
  · unfold wrongL
    rw [hK, st_enc hk hL 7 (Nat.le_refl _)]
theorem dec_enc (h : okCmd k rq wh sc mk pr am nu = true) (h7 : 0 ≤ nu) : decS (encB k rq wh sc mk pr am nu) = (⟨k, rq, wh, sc, mk, pr, am, nu⟩, 0) := by
  obtain ⟨h1, h2⟩ := cand_enc h h7 (split_enc h h7)
  unfold decS
  rw [h1, h2]
  have e1 : (⟨k, rq, wh, sc, mk, pr, am, nu⟩ : Cmd).ok = true := h
  have e2 : (⟨k, rq, wh, sc, mk, pr, am, nu⟩ : Cmd).enc = encB k rq wh sc mk pr am nu := rfl
  rw [e1, e2]
  simp
end
theorem wrap_u64_ge (n : Int) : 0 ≤ IntKind.u64.wrap n := by rw [IntKind.wrap_u64]; omega
/-- What is decoded is encoded as the bytes; else nothing is told. -/
theorem dec_ok (s : ByteArray) : ((decS s).2 = 0 ∧ (decS s).1.ok = true ∧ (decS s).1.enc = s ∧ 0 ≤ (decS s).1.nu) ∨ ((decS s).2 = 200 ∧ (decS s).1 = Cmd.zero) := by
  unfold decS
  split
  · rename_i h
    simp only [Bool.and_eq_true, beq_iff_eq] at h
    exact .inl ⟨rfl, h.1.2, text_ext (by rw [← toList_data, ← toList_data]; exact h.2), wrap_u64_ge _⟩
  · exact .inr ⟨rfl, rfl⟩
def bd (k : Int) : Nat → Nat
  | 0 => (firstOf k).size
  | n + 1 => if hasW k n then bd k n + 1 + mx n else bd k n
theorem bd_le {k : Int} (hk : 1 ≤ k ∧ k ≤ 13) : bd k 7 ≤ 80 := by
  rcases kind_cases (a := k) (by omega) with rfl | rfl | rfl | rfl | rfl | rfl | rfl | rfl | rfl | rfl | rfl | rfl | rfl | rfl
  · omega
  all_goals decide +kernel
section
variable {k : Int} {rq wh sc mk : ByteArray} {pr am nu : Int}
theorem text_size (h : okCmd k rq wh sc mk pr am nu = true) (h7 : 0 ≤ nu) : ∀ n, n ≤ 7 → (textTo k rq wh sc mk pr am nu n).size ≤ bd k n
  | 0, _ => Nat.le_refl _
  | n + 1, hn => by
    have ih := text_size h h7 n (by omega)
    unfold textTo bd
    cases hh : hasW k n with
    | false => simpa using ih
    | true =>
      rw [if_pos rfl, if_pos rfl, ByteArray.size_append, ByteArray.size_append]
      have := (word_good h h7 (by omega : n < 7) hh).2.2
      have e : (⟨#[32]⟩ : ByteArray).size = 1 := rfl
      omega
theorem enc_size (h : okCmd k rq wh sc mk pr am nu = true) (h7 : 0 ≤ nu) : (encB k rq wh sc mk pr am nu).size ≤ 80 := Nat.le_trans (text_size h h7 7 (Nat.le_refl _)) (bd_le (ok_parts h).1)
theorem last_sign {s : ByteArray} (h : clean s) (h1 : 1 ≤ s.size) : ∃ l b, s.data.toList = l ++ [b] ∧ isSign b = true := by
  have hz := size_len s
  rcases List.eq_nil_or_concat s.data.toList with e | ⟨l, b, e⟩
  · rw [e] at hz; simp at hz; omega
  · rw [List.concat_eq_append] at e
    exact ⟨l, b, e, h b (by rw [e]; simp)⟩
theorem text_last (h : okCmd k rq wh sc mk pr am nu = true) (h7 : 0 ≤ nu) : ∀ n, n ≤ 7 → ∃ l b, (textTo k rq wh sc mk pr am nu n).data.toList = l ++ [b] ∧ isSign b = true
  | 0, _ => last_sign (first_good (ok_parts h).1).1 (first_good (ok_parts h).1).2.1
  | n + 1, hn => by
    unfold textTo
    cases hh : hasW k n with
    | false => exact text_last h h7 n (by omega)
    | true =>
      obtain ⟨a, b, _⟩ := word_good h h7 (by omega : n < 7) hh
      obtain ⟨l, c, e, hc⟩ := last_sign a b
      refine ⟨(textTo k rq wh sc mk pr am nu n ++ ⟨#[32]⟩).data.toList ++ l, c, ?_, hc⟩
      rw [if_pos rfl, ByteArray.data_append, Array.toList_append, e, List.append_assoc]
theorem enc_head (h : okCmd k rq wh sc mk pr am nu = true) : ∃ b l, (encB k rq wh sc mk pr am nu).data.toList = b :: l ∧ isSign b = true := by
  obtain ⟨a, b, _⟩ := first_good (ok_parts h).1
  have hz := size_len (firstOf k)
  unfold encB
  rw [enc_join]
  cases e : (firstOf k).data.toList with
  | nil => rw [e] at hz; simp at hz; omega
  | cons c l => exact ⟨c, _, rfl, a c (by rw [e]; exact List.mem_cons_self)⟩
end
end Go.Proofs.YtdpdbmdnmgaeiaaDoor.E
