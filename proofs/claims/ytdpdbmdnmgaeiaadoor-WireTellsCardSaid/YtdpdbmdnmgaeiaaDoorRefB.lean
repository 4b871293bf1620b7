/- The document's amounts of texts. The document's words of a text, between blanks: strings.Split's. -/
import Derived.Test.YtdpdbmdnmgaeiaaDoorRefA
import Derived.Test.YtdpdbmdnmgaeiaaDoorPx3
import Derived.Test.YtdpdbmdnmgaeiaaDoorDecPure
import Derived.Test.YtdpdbmdnmgaeiaaDoorPx3
namespace Go.Proofs.YtdpdbmdnmgaeiaaDoor.E
open Go.RowKit Go.Proofs.YtdpdbmdnmgaeiaaDoor.P Go.Proofs.YtdpdbmdnmgaeiaaDoorW.PrintWords Go.Proofs.YtdpdbmdnmgaeiaaDoorW.PrintLast
/-- How the document's Parse ends: the digits' number is taken, if its text is the text. -/
def refEnd (L : List UInt8) (less : Bool) (n : Nat) : Int × Int :=
  if (less = true ∧ 9223372036854775808 < n) ∨ (less = false ∧ 9223372036854775807 < n) then (0, 11)
  else if intText (if less = true then -(n : Int) else (n : Int)) = L then ((if less = true then -(n : Int) else (n : Int)), 0) else (0, 11)
theorem text_is {t : List UInt8} {s : ByteArray} : (⟨t.toArray⟩ : ByteArray).toList = s.toList ↔ t = s.data.toList := by
  rw [toList_data, toList_data]
theorem parse_end (s : ByteArray) (less : Bool) (n : Nat) (h : n < 18446744073709551616) : Ev (fun k => if less = true then (cambistref01_Parse.j4 k s less (n : Int) (decide ((n : Int) > 9223372036854775808))) else (if (n : Int) > 9223372036854775807 then (cambistref01_Parse.j4 k s less (n : Int) true) else (cambistref01_Parse.j4 k s less (n : Int) false))) (refEnd s.data.toList less n) := by
  cases less with
  | true =>
    refine ev_pos rfl (ev_succ ?_)
    simp only [cambistref01_Parse.j4]
    by_cases hb : (n : Int) > 9223372036854775808
    · refine ev_pos (decide_eq_true hb) (ev_some ?_)
      unfold refEnd
      rw [if_pos (.inl ⟨rfl, by omega⟩)]
    · have e : wrap64 (IntKind.u64.wrap (-(n : Int))) = -(n : Int) := by
        rw [IntKind.wrap_u64]
        unfold wrap64
        omega
      have hin : in64 (-(n : Int)) := by unfold in64; omega
      refine ev_neg (by simpa using hb) (ev_pos trivial ?_)
      rw [e]
      refine ev_call (ref_text hin) ?_
      have er : refEnd s.data.toList true n = if intText (-(n : Int)) = s.data.toList then (-(n : Int), 0) else (0, 11) := by
        unfold refEnd
        rw [if_neg (by rintro (⟨_, h2⟩ | ⟨h2, _⟩); omega; cases h2), if_pos rfl]
      rw [er]
      by_cases ht : intText (-(n : Int)) = s.data.toList
      · exact ev_pos (text_is.2 ht) (ev_some (by rw [if_pos ht]))
      · exact ev_neg (fun e => ht (text_is.1 e)) (ev_some (by rw [if_neg ht]))
  | false =>
    refine ev_neg (by decide) ?_
    by_cases hb : (n : Int) > 9223372036854775807
    · refine ev_pos hb (ev_succ ?_)
      simp only [cambistref01_Parse.j4]
      refine ev_pos trivial (ev_some ?_)
      unfold refEnd
      rw [if_pos (.inr ⟨rfl, by omega⟩)]
    · have hin : in64 (n : Int) := by unfold in64; omega
      refine ev_neg hb (ev_succ ?_)
      simp only [cambistref01_Parse.j4]
      refine ev_neg (by decide) (ev_neg (by decide) ?_)
      rw [wrap64_in hin]
      refine ev_call (ref_text hin) ?_
      have er : refEnd s.data.toList false n = if intText (n : Int) = s.data.toList then ((n : Int), 0) else (0, 11) := by
        have e1 : (if (false = true) then -(n : Int) else (n : Int)) = (n : Int) := if_neg (by decide)
        unfold refEnd
        rw [if_neg (by rintro (⟨h2, _⟩ | ⟨_, h2⟩); cases h2; omega), e1]
      rw [er]
      by_cases ht : intText (n : Int) = s.data.toList
      · exact ev_pos (text_is.2 ht) (ev_some (by rw [if_pos ht]))
      · exact ev_neg (fun e => ht (text_is.1 e)) (ev_some (by rw [if_neg ht]))
instance (c : UInt8) : Decidable (isTen c) := inferInstanceAs (Decidable (_ ∧ _))
theorem parse_loop (s ds : ByteArray) (less : Bool) (hds : ds.size ≤ 19) : ∀ (m i acc : Nat), ds.size - i = m → i ≤ ds.size → acc < 10 ^ i → Ev (fun k => cambistref01_Parse.l0 k s ds less (acc : Int) (i : Int)) (if ∀ c ∈ ds.data.toList.drop i, isTen c then refEnd s.data.toList less (foldTen acc (ds.data.toList.drop i)) else (0, 11)) := by
  intro m
  induction m with
  | zero =>
    intro i acc hm hi hacc
    obtain rfl : i = ds.size := by omega
    have hp : 10 ^ ds.size ≤ 10 ^ 19 := Nat.pow_le_pow_right (by decide) hds
    have he : ds.data.toList.drop ds.size = [] := List.drop_of_length_le (by rw [size_len]; omega)
    rw [he, if_pos (fun c hc => by cases hc)]
    refine ev_succ ?_
    simp only [cambistref01_Parse.l0]
    exact ev_neg (by omega) (parse_end s less acc (by omega))
  | succ m ih =>
    intro i acc hm hi hacc
    have hlt : i < ds.data.toList.length := by rw [size_len]; omega
    have hp : 10 ^ i ≤ 10 ^ 18 := Nat.pow_le_pow_right (by decide) (by omega)
    refine ev_succ ?_
    simp only [cambistref01_Parse.l0]
    rw [bt_get ds i hlt, wrap_next (n := 19) (by omega) (by decide)]
    have hdr : ds.data.toList.drop i = ds.data.toList[i] :: ds.data.toList.drop (i + 1) := List.drop_eq_getElem_cons hlt
    rw [hdr]
    generalize ds.data.toList[i] = c
    have hc256 := c.toNat_lt
    refine ev_pos (by omega) (ev_pos (by omega) ?_)
    by_cases h1 : (c.toNat : Int) < 48
    · refine ev_pos h1 (ev_some ?_)
      rw [if_neg (fun h => by have := (h c (List.mem_cons_self ..)).1; omega)]
    · refine ev_neg h1 ?_
      by_cases h2 : (c.toNat : Int) > 57
      · refine ev_pos h2 (ev_some ?_)
        rw [if_neg (fun h => by have := (h c (List.mem_cons_self ..)).2; omega)]
      · refine ev_neg h2 ?_
        have e : IntKind.u64.wrap ((IntKind.u64.wrap ((acc : Int) * 10)) + (((c.toNat : Int) - 48) % 256)) = ((acc * 10 + (c.toNat - 48) : Nat) : Int) := by
          rw [IntKind.wrap_u64, IntKind.wrap_u64]
          omega
        rw [e]
        refine ev_eq ?_ (ih (i + 1) (acc * 10 + (c.toNat - 48)) (by omega) (by omega) (by rw [Nat.pow_succ]; omega))
        have ht : isTen c := by unfold isTen; omega
        by_cases ha : ∀ d ∈ ds.data.toList.drop (i + 1), isTen d
        · rw [if_pos ha, if_pos (fun d hd => by
            rcases List.mem_cons.1 hd with rfl | hd
            · exact ht
            · exact ha d hd)]
          rfl
        · rw [if_neg ha, if_neg (fun h => ha fun d hd => h d (List.mem_cons_of_mem _ hd))]
/-- All of the document's Parse behind the sign. -/
def digitsEnd (L D : List UInt8) (less : Bool) : Int × Int := if D.length = 0 ∨ 19 < D.length then (0, 11) else if ∀ c ∈ D, isTen c then refEnd L less (foldTen 0 D) else (0, 11)
theorem parse_digits_end (s ds : ByteArray) (less : Bool) : Ev (fun k => cambistref01_Parse.j1 k s ds less) (digitsEnd s.data.toList ds.data.toList less) := by
  have hl := size_len ds
  refine ev_succ ?_
  simp only [cambistref01_Parse.j1]
  unfold digitsEnd
  by_cases h0 : ds.size = 0
  · refine ev_pos (by omega) (ev_succ ?_)
    simp only [cambistref01_Parse.j2]
    exact ev_pos trivial (ev_some (by rw [if_pos (.inl (by omega))]))
  · refine ev_neg (by omega) ?_
    by_cases h19 : (ds.size : Int) > 19
    · rw [decide_eq_true h19]
      refine ev_succ ?_
      simp only [cambistref01_Parse.j2]
      exact ev_pos trivial (ev_some (by rw [if_pos (.inr (by omega))]))
    · rw [decide_eq_false h19]
      refine ev_succ ?_
      simp only [cambistref01_Parse.j2]
      refine ev_neg (by decide) ?_
      rw [if_neg (by omega)]
      have := parse_loop s ds less (by omega) _ 0 0 rfl (Nat.zero_le _) (by decide)
      rw [List.drop_zero] at this
      exact this
theorem digits_facts {v : Int} (h : in64 v) : (∀ c ∈ decText v.natAbs, isTen c) ∧ foldTen 0 (decText v.natAbs) = v.natAbs ∧ decText v.natAbs ≠ [] ∧ (decText v.natAbs).length ≤ 19 := by
  have h1 := h.1
  have h2 := h.2
  obtain ⟨f1, f2, f3, _⟩ := decText_facts v.natAbs (by omega)
  have f := decRec_facts 19 v.natAbs (by omega) (by decide)
  refine ⟨f1, f2, f3, ?_⟩
  rw [decText_eq _ (by omega), ← decRec_eq 19 _ (by omega) (by decide)]
  exact f.2.2.2
theorem digitsEnd_no {L D : List UInt8} {less : Bool} (h : ∀ v, in64 v → intText v ≠ L) : digitsEnd L D less = (0, 11) := by
  unfold digitsEnd
  split
  · rfl
  · split
    · unfold refEnd
      split
      · rfl
      · rename_i hn
        rw [if_neg (h _ _)]
        generalize foldTen 0 D = n at *
        unfold in64
        cases less with
        | true =>
          rw [if_pos rfl]
          have : ¬ 9223372036854775808 < n := fun e => hn (.inl ⟨rfl, e⟩)
          omega
        | false =>
          rw [if_neg (by decide)]
          have : ¬ 9223372036854775807 < n := fun e => hn (.inr ⟨rfl, e⟩)
          omega
    · rfl
theorem digitsEnd_yes {v : Int} (h : in64 v) : digitsEnd (intText v) (decText v.natAbs) (decide (v < 0)) = (v, 0) := by
  obtain ⟨f1, f2, f3, f4⟩ := digits_facts h
  have h1 := h.1
  have h2 := h.2
  unfold digitsEnd
  rw [if_neg (by rintro (e | e); exact f3 (List.eq_nil_of_length_eq_zero e); omega), if_pos f1, f2]
  unfold refEnd
  by_cases hv : v < 0
  · have e : -((v.natAbs : Nat) : Int) = v := by omega
    rw [decide_eq_true hv, if_pos rfl, e, if_neg (by rintro (⟨_, e⟩ | ⟨e, _⟩); omega; cases e), if_pos rfl]
  · have e : ((v.natAbs : Nat) : Int) = v := by omega
    have e1 : (if (false = true) then -((v.natAbs : Nat) : Int) else ((v.natAbs : Nat) : Int)) = v := by rw [if_neg (by decide)]; exact e
    rw [decide_eq_false hv, e1, if_neg (by rintro (⟨e, _⟩ | ⟨_, e⟩); cases e; omega), if_pos rfl]
theorem ref_parse (s : ByteArray) : Ev (fun k => cambistref01_Parse.f k s) (parseOf s.data.toList) := by
  have hl := size_len s
  have fin : ∀ (ds : ByteArray) (less : Bool), (∀ v, in64 v → intText v = s.data.toList → ds.data.toList = decText v.natAbs ∧ less = decide (v < 0)) → digitsEnd s.data.toList ds.data.toList less = parseOf s.data.toList := by
    intro ds less h
    rcases parseOf_cases s.data.toList with ⟨v, hv, ht, hp⟩ | ⟨hno, hp⟩
    · obtain ⟨e1, e2⟩ := h v hv ht
      rw [hp, e1, e2, ← ht]
      exact digitsEnd_yes hv
    · rw [hp]
      exact digitsEnd_no hno
  unfold cambistref01_Parse.f
  by_cases h0 : (s.size : Int) > 0
  · have hlt : 0 < s.data.toList.length := by omega
    refine ev_pos h0 (ev_pos h0 ?_)
    rw [show bt s 0 = bt s ((0 : Nat) : Int) from rfl, bt_get s 0 hlt]
    obtain ⟨c, r, hL⟩ : ∃ c r, s.data.toList = c :: r := by
      match hh : s.data.toList with
      | [] => rw [hh] at hlt; simp at hlt
      | c :: r => exact ⟨c, r, rfl⟩
    · have hc0 : s.data.toList[0] = c := by simp [hL]
      rw [hc0]
      refine ev_succ ?_
      simp only [cambistref01_Parse.j0]
      by_cases hc : c.toNat = 45
      · have e : ((c.toNat : Int) == 45) = true := by rw [hc]; rfl
        rw [e]
        refine ev_pos rfl (ev_pos (by omega) ?_)
        refine ev_eq (fin _ _ ?_) (parse_digits_end s _ true)
        intro v hv ht
        have hd : (s.extract 1 s.size).data.toList = r := by
          rw [ByteArray.data_extract, Array.toList_extract]
          simp [hL, List.extract, ← hl]
        rw [hd]
        rw [hL] at ht
        unfold intText at ht
        by_cases hn : v < 0
        · rw [if_pos hn] at ht
          exact ⟨(List.cons.inj ht).2.symm, (decide_eq_true hn).symm⟩
        · exfalso
          rw [if_neg hn, show v.toNat = v.natAbs by omega] at ht
          have := (digits_facts hv).1 c (by rw [ht]; exact List.mem_cons_self ..)
          unfold isTen at this
          omega
      · have e : ((c.toNat : Int) == 45) = false := beq_eq_false_iff_ne.2 (by omega)
        rw [e]
        refine ev_neg (by decide) ?_
        refine ev_eq (fin _ _ ?_) (parse_digits_end s s false)
        intro v hv ht
        rw [hL] at ht ⊢
        unfold intText at ht
        by_cases hn : v < 0
        · exfalso
          rw [if_pos hn] at ht
          have := (List.cons.inj ht).1
          rw [← this] at hc
          exact hc rfl
        · rw [if_neg hn, show v.toNat = v.natAbs by omega] at ht
          exact ⟨ht.symm, (decide_eq_false hn).symm⟩
  · refine ev_neg h0 (ev_succ ?_)
    simp only [cambistref01_Parse.j0]
    refine ev_neg (by decide) (ev_eq (fin _ _ ?_) (parse_digits_end s s false))
    intro v hv ht
    exfalso
    have hnil : s.data.toList = [] := List.eq_nil_of_length_eq_zero (by omega)
    rw [hnil] at ht
    unfold intText at ht
    split at ht
    · cases ht
    · rename_i hn
      rw [show v.toNat = v.natAbs by omega] at ht
      exact (digits_facts hv).2.2.1 ht
theorem parse_some (s : ByteArray) (h : s.size ≤ 140737488351232) : coin_Parse.f s = some (parseOf s.data.toList) := if_pos h
end Go.Proofs.YtdpdbmdnmgaeiaaDoor.E
namespace Go.Proofs.YtdpdbmdnmgaeiaaDoor.E
open Go.RowKit Go.Proofs.YtdpdbmdnmgaeiaaDoor.P Go.Proofs.YtdpdbmdnmgaeiaaDoorW.PrintWords Go.Proofs.YtdpdbmdnmgaeiaaDoorW.PrintLast
def partsW (l : List UInt8) : List ByteArray := (cutAt 32 l).map fun p => ⟨p.toArray⟩
theorem partsW_none (x : List UInt8) (h : ∀ b ∈ x, b ≠ 32) : partsW x = [⟨x.toArray⟩] := by
  unfold partsW
  rw [cut_none x h]
  rfl
theorem partsW_some (x r : List UInt8) (h : ∀ b ∈ x, b ≠ 32) : partsW (x ++ 32 :: r) = ⟨x.toArray⟩ :: partsW r := by
  unfold partsW
  rw [cut_some x r h]
  rfl
theorem drop_at' {l : List UInt8} {i : Nat} (h : i < l.length) : l.drop i = l[i] :: l.drop (i + 1) := List.drop_eq_getElem_cons h
theorem extract_one' (s : ByteArray) (i : Nat) (h : i < s.data.toList.length) : (s.extract i (i + 1)).data.toList = [s.data.toList[i]] := by
  rw [Lib.extract_data, List.drop_eq_getElem_cons h, show i + 1 - i = 1 by omega]
  rfl
theorem wrap_small' {i n : Nat} (h : i ≤ n) (hn : n ≤ 1000000) : wrap64 ((i : Int) + 1) = ((i + 1 : Nat) : Int) := wrap_next h (by omega)
theorem ref_words_loop (s : ByteArray) (hs : s.size ≤ 1000000) (R : List ByteArray) : ∀ (m i : Nat) (done : List ByteArray) (cur : ByteArray), s.size - i = m → i ≤ s.size → done.length + cur.size ≤ i → (∀ b ∈ cur.data.toList, b ≠ 32) →
    done ++ partsW (cur.data.toList ++ s.data.toList.drop i) = R → Ev (fun k => cambistref19_Words.l0 k s done cur (i : Int)) R := by
  intro m
  induction m with
  | zero =>
    intro i done cur hm hi hd hcur hinv
    rw [List.drop_of_length_le (by rw [size_len]; omega), List.append_nil, partsW_none _ hcur] at hinv
    refine ev_succ ?_
    simp only [cambistref19_Words.l0]
    refine ev_neg (by omega) (ev_pos (by omega) (ev_some ?_))
    rw [← hinv]
  | succ m ih =>
    intro i done cur hm hi hd hcur hinv
    have hlt : i < s.data.toList.length := by rw [size_len]; omega
    rw [drop_at' hlt] at hinv
    refine ev_succ ?_
    simp only [cambistref19_Words.l0]
    refine ev_pos (by omega) (ev_pos (by omega) ?_)
    rw [bt_get s i hlt, wrap_small' hi hs]
    by_cases hb : s.data.toList[i] = 32
    · rw [hb] at hinv ⊢
      refine ev_pos rfl (ev_pos (by omega) ?_)
      refine ih (i + 1) (done ++ [cur]) ⟨#[]⟩ (by omega) (by omega) ?_ (by simp) ?_
      · rw [List.length_append, List.length_singleton]
        show done.length + 1 + 0 ≤ _
        omega
      · rw [partsW_some _ _ hcur] at hinv
        rw [List.append_assoc]
        exact hinv
    · have hne : ¬ ((s.data.toList[i].toNat : Int) = 32) := fun h => hb (by
        apply UInt8.toNat_inj.1
        show _ = 32
        omega)
      have hx : ((i : Int)).toNat = i := by omega
      have hy : (((i + 1 : Nat) : Int)).toNat = i + 1 := by omega
      rw [hx, hy]
      have h1 := extract_one' s i hlt
      have hsz : (s.extract i (i + 1)).size = 1 := by rw [← size_len, h1]; rfl
      refine ev_neg hne (ev_pos (by omega) (ev_pos (by omega) (ev_pos (by omega) ?_)))
      refine ih (i + 1) done (cur ++ s.extract i (i + 1)) (by omega) (by omega) ?_ ?_ ?_
      · rw [ByteArray.size_append, hsz]; omega
      · intro x hx
        rw [ByteArray.data_append, Array.toList_append, h1] at hx
        rcases List.mem_append.1 hx with h | h
        · exact hcur x h
        · rw [List.mem_singleton.1 h]; exact hb
      · rw [ByteArray.data_append, Array.toList_append, h1, List.append_assoc]
        exact hinv
theorem ref_words (s : ByteArray) (hs : s.size ≤ 1000000) : Ev (fun k => cambistref19_Words.f k s) (splitOn s 32) := by
  unfold cambistref19_Words.f
  exact ref_words_loop s hs _ s.size 0 [] ⟨#[]⟩ (by omega) (by omega) (by show 0 + 0 ≤ 0; omega) (by simp) (by simp [partsW, splitOn])
end Go.Proofs.YtdpdbmdnmgaeiaaDoor.E
