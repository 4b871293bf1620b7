/- The document's answers of layer 2 to which texts are names. How far an amount is from 0, as the document reckons it. The document's texts of amounts. The document's amounts of texts. The document's sum of two amounts. The document's sum: taken in turns, it is the sum, or the error. The document's words, lines, numbers and texts of layer 19, in plain words. The document's statement of a text is what is read of it. A statement is the same as itself. The law SlipTexts answers true. -/
import Derived.Test.YtnngbnhbmgdkoaaGreatDoorNames
import Derived.Test.YtnngbnhbmgdkoaaGreatDoorPx4
import Derived.Test.YtnngbnhbmgdkoaaGreatDoorPx4
import Derived.Test.YtnngbnhbmgdkoaaGreatDoorPx4
import Derived.Test.YtnngbnhbmgdkoaaGreatDoorPx6
import Derived.Test.YtnngbnhbmgdkoaaGreatDoorPx6
import Derived.Test.YtnngbnhbmgdkoaaGreatDoorNumText
import Derived.Test.YtnngbnhbmgdkoaaGreatDoorEv
import Derived.Laws.BitsLemmas
import Derived.Laws.Bits64
import Derived.IntWalk
import Derived.Test.YtnngbnhbmgdkoaaGreatDoorPx6
import Derived.Test.YtnngbnhbmgdkoaaGreatDoorArith
import Derived.Test.YtnngbnhbmgdkoaaGreatDoorMini
import Derived.Test.YtnngbnhbmgdkoaaGreatDoorPx6
import Derived.Test.YtnngbnhbmgdkoaaGreatDoorPx8
import Derived.Test.YtnngbnhbmgdkoaaGreatDoorPx4
import Derived.Test.YtnngbnhbmgdkoaaGreatDoorSumPure
import Derived.Test.YtnngbnhbmgdkoaaGreatDoorPx5
import Derived.Test.YtnngbnhbmgdkoaaGreatDoorSEvs
import Derived.Test.YtnngbnhbmgdkoaaGreatDoorPx8
import Derived.Test.YtnngbnhbmgdkoaaGreatDoorPx7
import Derived.Test.YtnngbnhbmgdkoaaGreatDoorPx6
import Derived.Test.YtnngbnhbmgdkoaaGreatDoorPx8
import Derived.Test.YtnngbnhbmgdkoaaGreatDoorPx8
import Derived.Test.YtnngbnhbmgdkoaaGreatDoorPx6
import Derived.Test.YtnngbnhbmgdkoaaGreatDoorPx7
import Derived.Test.YtnngbnhbmgdkoaaGreatDoorPx4
import Derived.Test.YtnngbnhbmgdkoaaGreatDoorPx9d
import Derived.Test.YtnngbnhbmgdkoaaGreatDoorPx3
import Derived.Test.YtnngbnhbmgdkoaaGreatDoorOpenS
import Derived.Test.YtnngbnhbmgdkoaaGreatDoorPx11
namespace Go.Proofs.YtnngbnhbmgdkoaaGreatDoor.E
open Go.RowKit Go.Proofs.YtnngbnhbmgdkoaaGreatDoor.P Go.Proofs.YtnngbnhbmgdkoaaGreatDoorW.PrintWords Go.Proofs.YtnngbnhbmgdkoaaGreatDoorW.PrintLast

theorem within_some (c : UInt8) (a b : Nat) : cambistref02_within.f (c.toNat : Int) (a : Int) (b : Int) = some (decide (a ≤ c.toNat) && decide (c.toNat ≤ b)) := by
  unfold cambistref02_within.f
  by_cases h : a ≤ c.toNat
  · rw [if_pos (by omega), decide_eq_true h, Bool.true_and]
    congr 1
    rw [Bool.eq_iff_iff]; simp
  · rw [if_neg (by omega), decide_eq_false h, Bool.false_and]
theorem within_low (c : UInt8) : cambistref02_within.f (c.toNat : Int) 97 122 = some (isLow c) := within_some c 97 122
theorem within_up (c : UInt8) : cambistref02_within.f (c.toNat : Int) 65 90 = some (isUp c) := within_some c 65 90
theorem within_dig (c : UInt8) : cambistref02_within.f (c.toNat : Int) 48 57 = some (isDig c) := within_some c 48 57
theorem drop_at {l : List UInt8} {i : Nat} (h : i < l.length) : l.drop i = l[i] :: l.drop (i + 1) := List.drop_eq_getElem_cons h

theorem asset_loop (s : ByteArray) (hs : s.size ≤ 140737488351232) : ∀ (m i : Nat), s.size - i = m → i ≤ s.size →
    Ev (fun k => cambistref02_Asset.l0 k s (i : Int)) ((s.data.toList.drop i).all isUp && (decide (1 ≤ s.size) && decide ((s.size : Int) ≤ 6))) := by
  intro m
  induction m with
  | zero =>
    intro i hm hi
    refine ev_succ ?_
    simp only [cambistref02_Asset.l0]
    refine ev_neg (by omega) ?_
    rw [List.drop_of_length_le (by rw [size_len]; omega)]
    by_cases h1 : 1 ≤ s.size
    · refine ev_pos (by omega) (ev_some ?_)
      rw [decide_eq_true h1]; rfl
    · refine ev_neg (by omega) (ev_some ?_)
      rw [decide_eq_false h1]; rfl
  | succ m ih =>
    intro i hm hi
    have hlt : i < s.data.toList.length := by rw [size_len]; omega
    refine ev_succ ?_
    simp only [cambistref02_Asset.l0]
    refine ev_pos (by omega) (ev_pos (by omega) ?_)
    rw [bt_get s i hlt, drop_at hlt, List.all_cons]
    refine ev_opt (within_up _) ?_
    cases isUp s.data.toList[i] with
    | true =>
      refine ev_pos rfl ?_
      rw [wrap_next hi hs]
      exact ih (i + 1) (by omega) (by omega)
    | false => exact ev_neg (by decide) (ev_some rfl)
theorem ref_asset (s : ByteArray) (hs : s.size ≤ 140737488351232) : Ev (fun k => cambistref02_Asset.f k s) (isPart isUp 6 s) := asset_loop s hs s.size 0 (by omega) (by omega)

theorem part_loop (s : ByteArray) (most : Int) (hs : s.size ≤ 140737488351232) : ∀ (m i : Nat), s.size - i = m → i ≤ s.size →
    Ev (fun k => cambistref02_part.l0 k s most (i : Int)) ((s.data.toList.drop i).all isSign && (decide (1 ≤ s.size) && decide ((s.size : Int) ≤ most))) := by
  intro m
  induction m with
  | zero =>
    intro i hm hi
    refine ev_succ ?_
    simp only [cambistref02_part.l0]
    refine ev_neg (by omega) ?_
    rw [List.drop_of_length_le (by rw [size_len]; omega)]
    by_cases h1 : 1 ≤ s.size
    · refine ev_pos (by omega) (ev_some ?_)
      rw [decide_eq_true h1]; rfl
    · refine ev_neg (by omega) (ev_some ?_)
      rw [decide_eq_false h1]; rfl
  | succ m ih =>
    intro i hm hi
    have hlt : i < s.data.toList.length := by rw [size_len]; omega
    have next := ih (i + 1) (by omega) (by omega)
    rw [← wrap_next hi hs] at next
    refine ev_succ ?_
    simp only [cambistref02_part.l0]
    refine ev_pos (by omega) (ev_pos (by omega) ?_)
    rw [bt_get s i hlt, drop_at hlt, List.all_cons]
    generalize hc : s.data.toList[i] = c
    refine ev_opt (within_low _) ?_
    cases h1 : isLow c with
    | true =>
      rw [show isSign c = true by unfold isSign; rw [h1]; rfl]
      exact ev_pos rfl next
    | false =>
      refine ev_neg (by decide) (ev_opt (within_up _) ?_)
      cases h2 : isUp c with
      | true =>
        rw [show isSign c = true by unfold isSign; rw [h1, h2]; rfl]
        exact ev_pos rfl next
      | false =>
        refine ev_neg (by decide) (ev_opt (within_dig _) ?_)
        cases h3 : isDig c with
        | true =>
          rw [show isSign c = true by unfold isSign; rw [h1, h2, h3]; rfl]
          exact ev_pos rfl next
        | false =>
          refine ev_neg (by decide) ?_
          by_cases h4 : c.toNat = 45
          · rw [show isSign c = true by unfold isSign; rw [h1, h2, h3, decide_eq_true h4]; rfl]
            exact ev_pos (by omega) next
          · rw [show isSign c = false by unfold isSign; rw [h1, h2, h3, decide_eq_false h4]; rfl]
            exact ev_neg (by omega) (ev_some rfl)
theorem ref_part (s : ByteArray) (most : Int) (hs : s.size ≤ 140737488351232) : Ev (fun k => cambistref02_part.f k s most) (isPart isSign most s) := part_loop s most hs s.size 0 (by omega) (by omega)
theorem ref_word (s : ByteArray) (hs : s.size ≤ 140737488351232) : Ev (fun k => cambistref02_Word.f k s) (isPart isSign 12 s) := ev_call (ref_part s 12 hs) (ev_some rfl)

theorem who_loop (s : ByteArray) (hs : s.size ≤ 140737488351232) : ∀ (m i : Nat), s.size - i = m → i ≤ s.size → 1 ≤ i →
    Ev (fun k => cambistref02_Who.l0 k s (i : Int)) ((s.data.toList.drop i).all fun c => isLow c || isDig c) := by
  intro m
  induction m with
  | zero =>
    intro i hm hi _
    refine ev_succ ?_
    simp only [cambistref02_Who.l0]
    refine ev_neg (by omega) ?_
    rw [List.drop_of_length_le (by rw [size_len]; omega)]
    exact ev_some rfl
  | succ m ih =>
    intro i hm hi h1
    have hlt : i < s.data.toList.length := by rw [size_len]; omega
    have next := ih (i + 1) (by omega) (by omega) (by omega)
    rw [← wrap_next hi hs] at next
    refine ev_succ ?_
    simp only [cambistref02_Who.l0]
    refine ev_pos (by omega) (ev_pos (by omega) ?_)
    rw [bt_get s i hlt, drop_at hlt, List.all_cons]
    refine ev_opt (within_low _) (ev_opt (within_dig _) ?_)
    cases isLow s.data.toList[i] with
    | true => exact ev_pos rfl next
    | false =>
      refine ev_neg (by decide) (ev_neg (by omega) ?_)
      cases isDig s.data.toList[i] with
      | true => exact ev_pos rfl next
      | false => exact ev_neg (by decide) (ev_some rfl)
theorem ref_who (s : ByteArray) (hs : s.size ≤ 140737488351232) : Ev (fun k => cambistref02_Who.f k s) (isWho s) := by
  unfold cambistref02_Who.f
  cases hl : s.data.toList with
  | nil =>
    have h0 : s.size = 0 := by rw [← size_len, hl]; rfl
    have e : isWho s = false := by unfold isWho; rw [hl]
    rw [e]
    refine ev_pos (by omega) (ev_succ ?_)
    simp only [cambistref02_Who.j0]
    exact ev_pos trivial (ev_some rfl)
  | cons c t =>
    have hn : s.size = t.length + 1 := by rw [← size_len, hl]; rfl
    have e4 : isWho s = (isLow c && (t.all fun c => isLow c || isDig c) && decide (t.length + 1 ≤ 8)) := by
      unfold isWho
      rw [hl]
    rw [e4]
    refine ev_neg (by omega) (ev_succ ?_)
    simp only [cambistref02_Who.j0]
    by_cases h8 : t.length + 1 ≤ 8
    · rw [decide_eq_false (show ¬ (s.size : Int) > 8 by omega), decide_eq_true h8, Bool.and_true]
      refine ev_neg (by decide) (ev_succ ?_)
      simp only [cambistref02_Who.l0]
      have hlt : 0 < s.data.toList.length := by rw [size_len]; omega
      have hb := bt_get s 0 hlt
      have hc : s.data.toList[0] = c := by simp [hl]
      rw [hc] at hb
      have next := who_loop s hs (s.size - 1) 1 (by omega) (by omega) (by omega)
      rw [show s.data.toList.drop 1 = t by rw [hl]; rfl] at next
      replace next : Ev (fun k => cambistref02_Who.l0 k s (wrap64 (0 + 1))) (t.all fun c => isLow c || isDig c) := by
        rw [wrap_in (x := 0 + 1) (by decide) (by decide)]
        exact next
      refine ev_pos (by omega) (ev_pos (by omega) ?_)
      rw [show bt s 0 = (c.toNat : Int) from hb]
      refine ev_opt (within_low _) (ev_opt (within_dig _) ?_)
      cases isLow c with
      | true => rw [Bool.true_and]; exact ev_pos rfl next
      | false => exact ev_neg (by decide) (ev_pos trivial (ev_some rfl))
    · rw [decide_eq_true (show (s.size : Int) > 8 by omega), decide_eq_false h8, Bool.and_false]
      exact ev_pos rfl (ev_some rfl)
end Go.Proofs.YtnngbnhbmgdkoaaGreatDoor.E
namespace Go.Proofs.YtnngbnhbmgdkoaaGreatDoor.E
open Go.RowKit Go.Proofs.YtnngbnhbmgdkoaaGreatDoor.P Go.Proofs.YtnngbnhbmgdkoaaGreatDoorW.PrintWords Go.Proofs.YtnngbnhbmgdkoaaGreatDoorW.PrintLast
theorem size_some {a : Int} (h : in64 a) : cambistref01_size.f a = some (a.natAbs : Int) := by
  have h1 := h.1
  have h2 := h.2
  unfold cambistref01_size.f
  by_cases hn : a < 0
  · rw [if_pos hn, wrap_in (x := a + 1) (by omega) (by omega), wrap_in (x := -(a + 1)) (by omega) (by omega), IntKind.wrap_u64, IntKind.wrap_u64]
    congr 1
    omega
  · rw [if_neg hn, IntKind.wrap_u64]
    congr 1
    omega
theorem natAbs_le {a : Int} (h : in64 a) : a.natAbs ≤ 9223372036854775808 := by
  have h1 := h.1
  have h2 := h.2
  omega
end Go.Proofs.YtnngbnhbmgdkoaaGreatDoor.E
namespace Go.Proofs.YtnngbnhbmgdkoaaGreatDoor.E
open Go.RowKit Go.Proofs.YtnngbnhbmgdkoaaGreatDoor.P Go.Proofs.YtnngbnhbmgdkoaaGreatDoorW.PrintWords Go.Proofs.YtnngbnhbmgdkoaaGreatDoorW.PrintLast Go.Proofs.YtnngbnhbmgdkoaaGreatDoorW.PrintMore
theorem tens_at : ∀ d : Fin 10, strOfNums [((48 + d.val : Nat) : Int)] = ⟨#[UInt8.ofNat (48 + d.val)]⟩ := by decide +kernel
theorem ten_sign (n : Nat) (_h : n < 18446744073709551616) : strOfNums [(IntKind.u64.wrap (48 + (Int.tmod (n : Int) 10))) % 256] = ⟨#[UInt8.ofNat (48 + n % 10)]⟩ := by
  have e : (IntKind.u64.wrap (48 + (Int.tmod (n : Int) 10))) % 256 = ((48 + n % 10 : Nat) : Int) := by
    rw [Int.tmod_eq_emod_of_nonneg (Int.natCast_nonneg _), IntKind.wrap_u64]
    omega
  rw [e]
  exact tens_at ⟨n % 10, Nat.mod_lt _ (by decide)⟩
theorem ten_rest (n : Nat) (h : n < 18446744073709551616) : IntKind.u64.wrap (Int.tdiv (n : Int) 10) = ((n / 10 : Nat) : Int) := by
  rw [Int.tdiv_eq_ediv_of_nonneg (Int.natCast_nonneg _), IntKind.wrap_u64]
  omega
def front (k n : Nat) (out : List UInt8) : List UInt8 := (if n = 0 then [] else decRec k n) ++ out
theorem front_next (k n : Nat) (out : List UInt8) (_hn : n < 10 ^ (k + 1)) (h0 : 0 < n) : front k (n / 10) (UInt8.ofNat (48 + n % 10) :: out) = front (k + 1) n out := by
  unfold front
  rw [if_neg (show ¬ n = 0 by omega), decRec]
  by_cases h : n < 10
  · rw [if_pos (by omega), if_pos h, Nat.mod_eq_of_lt h]
    rfl
  · rw [if_neg (by omega), if_neg h, List.append_assoc]
    rfl
theorem ref_text_loop (x0 : Int) : ∀ (k n : Nat) (out : ByteArray), n < 10 ^ k → n < 18446744073709551616 → out.size + k ≤ 100 → Ev (fun j => cambistref01_Text.l0 j x0 (n : Int) out) ⟨((if x0 < 0 then [45] else []) ++ front k n out.data.toList).toArray⟩ := by
  intro k
  have stop : ∀ (k : Nat) (out : ByteArray), out.size ≤ 100 → Ev (fun j => cambistref01_Text.l0 j x0 (0 : Int) out) ⟨((if x0 < 0 then [45] else []) ++ front k 0 out.data.toList).toArray⟩ := by
    intro k out hs
    refine ev_succ ?_
    simp only [cambistref01_Text.l0]
    refine ev_neg (by omega) ?_
    by_cases hx : x0 < 0
    · refine ev_pos hx (ev_pos (by omega) (ev_some ?_))
      apply text_ext
      rw [if_pos hx]
      simp [front]
    · refine ev_neg hx (ev_some ?_)
      apply text_ext
      rw [if_neg hx]
      simp [front]
  induction k with
  | zero =>
    intro n out hn _ hs
    obtain rfl : n = 0 := by simpa using hn
    exact stop 0 out (by omega)
  | succ k ih =>
    intro n out hn h64 hs
    rcases Nat.eq_zero_or_pos n with h0 | h0
    · subst h0
      exact stop _ out (by omega)
    · refine ev_succ ?_
      simp only [cambistref01_Text.l0]
      refine ev_pos (by omega) (ev_opt rfl ?_)
      rw [ten_sign n h64, ten_rest n h64]
      refine ev_pos (by show 1 + out.size ≤ _; omega) ?_
      refine ev_eq ?_ (ih (n / 10) (⟨#[UInt8.ofNat (48 + n % 10)]⟩ ++ out) (by rw [Nat.pow_succ] at hn; omega) (by omega) (by rw [ByteArray.size_append]; show 1 + out.size + k ≤ 100; omega))
      congr 3
      rw [← front_next k n _ hn h0]
      simp
theorem ref_text {a : Int} (h : in64 a) : Ev (fun k => cambistref01_Text.f k a) ⟨(intText a).toArray⟩ := by
  have h1 := h.1
  have h2 := h.2
  have hm := natAbs_le h
  unfold cambistref01_Text.f
  refine ev_opt (size_some h) ?_
  rw [ten_sign _ (by omega), ten_rest _ (by omega)]
  refine ev_eq ?_ (ref_text_loop a 19 (a.natAbs / 10) ⟨#[UInt8.ofNat (48 + a.natAbs % 10)]⟩ (by omega) (by omega) (by show 1 + 19 ≤ 100; decide))
  congr 2
  have e : front 19 (a.natAbs / 10) [UInt8.ofNat (48 + a.natAbs % 10)] = decText a.natAbs := by
    unfold decText
    rw [decRec]
    unfold front
    by_cases h10 : a.natAbs < 10
    · rw [if_pos (by omega), if_pos h10, Nat.mod_eq_of_lt h10]
      rfl
    · rw [if_neg (by omega), if_neg h10]
  show (if a < 0 then [45] else []) ++ front 19 (a.natAbs / 10) [UInt8.ofNat (48 + a.natAbs % 10)] = intText a
  rw [e]
  unfold intText
  by_cases hn : a < 0
  · rw [if_pos hn, if_pos hn]
    rfl
  · rw [if_neg hn, if_neg hn, show a.natAbs = a.toNat by omega]
    rfl
theorem text_some {a : Int} (h : in64 a) : coin_Text.f a = some ⟨(intText a).toArray⟩ := if_pos h
end Go.Proofs.YtnngbnhbmgdkoaaGreatDoor.E
namespace Go.Proofs.YtnngbnhbmgdkoaaGreatDoor.E
open Go.RowKit Go.Proofs.YtnngbnhbmgdkoaaGreatDoor.P Go.Proofs.YtnngbnhbmgdkoaaGreatDoorW.PrintWords Go.Proofs.YtnngbnhbmgdkoaaGreatDoorW.PrintLast
/-- How the document's Parse ends: the digits' number is taken, if its text is the text. -/
def refEnd (L : List UInt8) (less : Bool) (n : Nat) : Int × Int :=
  if (less = true ∧ 9223372036854775808 < n) ∨ (less = false ∧ 9223372036854775807 < n) then (0, 11)
  else if intText (if less = true then -(n : Int) else (n : Int)) = L then ((if less = true then -(n : Int) else (n : Int)), 0) else (0, 11)
theorem text_is {t : List UInt8} {s : ByteArray} : (⟨t.toArray⟩ : ByteArray).toList = s.toList ↔ t = s.data.toList := by
  rw [toList_data, toList_data]
theorem parse_end (s : ByteArray) (less : Bool) (n : Nat) (h : n < 18446744073709551616) : Ev (fun k => if less = true then (cambistref01_Parse.j4 k s less (n : Int) (decide ((n : Int) > 9223372036854775808))) else (if (n : Int) > 9223372036854775807 then (cambistref01_Parse.j4 k s less (n : Int) true) else (cambistref01_Parse.j4 k s less (n : Int) false))) (refEnd s.data.toList less n) := by
  cases less with
  | true =>
    refine ev_pos rfl (ev_succ ?_)
    simp only [cambistref01_Parse.j4]
    by_cases hb : (n : Int) > 9223372036854775808
    · refine ev_pos (decide_eq_true hb) (ev_some ?_)
      unfold refEnd
      rw [if_pos (.inl ⟨rfl, by omega⟩)]
    · have e : wrap64 (IntKind.u64.wrap (-(n : Int))) = -(n : Int) := by
        rw [IntKind.wrap_u64]
        unfold wrap64
        omega
      have hin : in64 (-(n : Int)) := by unfold in64; omega
      refine ev_neg (by simpa using hb) (ev_pos trivial ?_)
      rw [e]
      refine ev_call (ref_text hin) ?_
      have er : refEnd s.data.toList true n = if intText (-(n : Int)) = s.data.toList then (-(n : Int), 0) else (0, 11) := by
        unfold refEnd
        rw [if_neg (by rintro (⟨_, h2⟩ | ⟨h2, _⟩); omega; cases h2), if_pos rfl]
      rw [er]
      by_cases ht : intText (-(n : Int)) = s.data.toList
      · exact ev_pos (text_is.2 ht) (ev_some (by rw [if_pos ht]))
      · exact ev_neg (fun e => ht (text_is.1 e)) (ev_some (by rw [if_neg ht]))
  | false =>
    refine ev_neg (by decide) ?_
    by_cases hb : (n : Int) > 9223372036854775807
    · refine ev_pos hb (ev_succ ?_)
      simp only [cambistref01_Parse.j4]
      refine ev_pos trivial (ev_some ?_)
      unfold refEnd
      rw [if_pos (.inr ⟨rfl, by omega⟩)]
    · have hin : in64 (n : Int) := by unfold in64; omega
      refine ev_neg hb (ev_succ ?_)
      simp only [cambistref01_Parse.j4]
      refine ev_neg (by decide) (ev_neg (by decide) ?_)
      rw [wrap64_in hin]
      refine ev_call (ref_text hin) ?_
      have er : refEnd s.data.toList false n = if intText (n : Int) = s.data.toList then ((n : Int), 0) else (0, 11) := by
        have e1 : (if (false = true) then -(n : Int) else (n : Int)) = (n : Int) := if_neg (by decide)
        unfold refEnd
        rw [if_neg (by rintro (⟨h2, _⟩ | ⟨_, h2⟩); cases h2; omega), e1]
      rw [er]
      by_cases ht : intText (n : Int) = s.data.toList
      · exact ev_pos (text_is.2 ht) (ev_some (by rw [if_pos ht]))
      · exact ev_neg (fun e => ht (text_is.1 e)) (ev_some (by rw [if_neg ht]))
instance (c : UInt8) : Decidable (isTen c) := inferInstanceAs (Decidable (_ ∧ _))
theorem parse_loop (s ds : ByteArray) (less : Bool) (hds : ds.size ≤ 19) : ∀ (m i acc : Nat), ds.size - i = m → i ≤ ds.size → acc < 10 ^ i → Ev (fun k => cambistref01_Parse.l0 k s ds less (acc : Int) (i : Int)) (if ∀ c ∈ ds.data.toList.drop i, isTen c then refEnd s.data.toList less (foldTen acc (ds.data.toList.drop i)) else (0, 11)) := by
  intro m
  induction m with
  | zero =>
    intro i acc hm hi hacc
    obtain rfl : i = ds.size := by omega
    have hp : 10 ^ ds.size ≤ 10 ^ 19 := Nat.pow_le_pow_right (by decide) hds
    have he : ds.data.toList.drop ds.size = [] := List.drop_of_length_le (by rw [size_len]; omega)
    rw [he, if_pos (fun c hc => by cases hc)]
    refine ev_succ ?_
    simp only [cambistref01_Parse.l0]
    exact ev_neg (by omega) (parse_end s less acc (by omega))
  | succ m ih =>
    intro i acc hm hi hacc
    have hlt : i < ds.data.toList.length := by rw [size_len]; omega
    have hp : 10 ^ i ≤ 10 ^ 18 := Nat.pow_le_pow_right (by decide) (by omega)
    refine ev_succ ?_
    simp only [cambistref01_Parse.l0]
    rw [bt_get ds i hlt, wrap_next (n := 19) (by omega) (by decide)]
    have hdr : ds.data.toList.drop i = ds.data.toList[i] :: ds.data.toList.drop (i + 1) := List.drop_eq_getElem_cons hlt
    rw [hdr]
    generalize ds.data.toList[i] = c
    have hc256 := c.toNat_lt
    refine ev_pos (by omega) (ev_pos (by omega) ?_)
    by_cases h1 : (c.toNat : Int) < 48
    · refine ev_pos h1 (ev_some ?_)
      rw [if_neg (fun h => by have := (h c (List.mem_cons_self ..)).1; omega)]
    · refine ev_neg h1 ?_
      by_cases h2 : (c.toNat : Int) > 57
      · refine ev_pos h2 (ev_some ?_)
        rw [if_neg (fun h => by have := (h c (List.mem_cons_self ..)).2; omega)]
      · refine ev_neg h2 ?_
        have e : IntKind.u64.wrap ((IntKind.u64.wrap ((acc : Int) * 10)) + (((c.toNat : Int) - 48) % 256)) = ((acc * 10 + (c.toNat - 48) : Nat) : Int) := by
          rw [IntKind.wrap_u64, IntKind.wrap_u64]
          omega
        rw [e]
        refine ev_eq ?_ (ih (i + 1) (acc * 10 + (c.toNat - 48)) (by omega) (by omega) (by rw [Nat.pow_succ]; omega))
        have ht : isTen c := by unfold isTen; omega
        by_cases ha : ∀ d ∈ ds.data.toList.drop (i + 1), isTen d
        · rw [if_pos ha, if_pos (fun d hd => by
            rcases List.mem_cons.1 hd with rfl | hd
            · exact ht
            · exact ha d hd)]
          rfl
        · rw [if_neg ha, if_neg (fun h => ha fun d hd => h d (List.mem_cons_of_mem _ hd))]
/-- All of the document's Parse behind the sign. -/
def digitsEnd (L D : List UInt8) (less : Bool) : Int × Int := if D.length = 0 ∨ 19 < D.length then (0, 11) else if ∀ c ∈ D, isTen c then refEnd L less (foldTen 0 D) else (0, 11)
theorem parse_digits_end (s ds : ByteArray) (less : Bool) : Ev (fun k => cambistref01_Parse.j1 k s ds less) (digitsEnd s.data.toList ds.data.toList less) := by
  have hl := size_len ds
  refine ev_succ ?_
  simp only [cambistref01_Parse.j1]
  unfold digitsEnd
  by_cases h0 : ds.size = 0
  · refine ev_pos (by omega) (ev_succ ?_)
    simp only [cambistref01_Parse.j2]
    exact ev_pos trivial (ev_some (by rw [if_pos (.inl (by omega))]))
  · refine ev_neg (by omega) ?_
    by_cases h19 : (ds.size : Int) > 19
    · rw [decide_eq_true h19]
      refine ev_succ ?_
      simp only [cambistref01_Parse.j2]
      exact ev_pos trivial (ev_some (by rw [if_pos (.inr (by omega))]))
    · rw [decide_eq_false h19]
      refine ev_succ ?_
      simp only [cambistref01_Parse.j2]
      refine ev_neg (by decide) ?_
      rw [if_neg (by omega)]
      have := parse_loop s ds less (by omega) _ 0 0 rfl (Nat.zero_le _) (by decide)
      rw [List.drop_zero] at this
      exact this
theorem digits_facts {v : Int} (h : in64 v) : (∀ c ∈ decText v.natAbs, isTen c) ∧ foldTen 0 (decText v.natAbs) = v.natAbs ∧ decText v.natAbs ≠ [] ∧ (decText v.natAbs).length ≤ 19 := by
  have h1 := h.1
  have h2 := h.2
  obtain ⟨f1, f2, f3, _⟩ := decText_facts v.natAbs (by omega)
  have f := decRec_facts 19 v.natAbs (by omega) (by decide)
  refine ⟨f1, f2, f3, ?_⟩
  rw [decText_eq _ (by omega), ← decRec_eq 19 _ (by omega) (by decide)]
  exact f.2.2.2
theorem digitsEnd_no {L D : List UInt8} {less : Bool} (h : ∀ v, in64 v → intText v ≠ L) : digitsEnd L D less = (0, 11) := by
  unfold digitsEnd
  split
  · rfl
  · split
    · unfold refEnd
      split
      · rfl
      · rename_i hn
        rw [if_neg (h _ _)]
        generalize foldTen 0 D = n at *
        unfold in64
        cases less with
        | true =>
          rw [if_pos rfl]
          have : ¬ 9223372036854775808 < n := fun e => hn (.inl ⟨rfl, e⟩)
          omega
        | false =>
          rw [if_neg (by decide)]
          have : ¬ 9223372036854775807 < n := fun e => hn (.inr ⟨rfl, e⟩)
          omega
    · rfl
theorem digitsEnd_yes {v : Int} (h : in64 v) : digitsEnd (intText v) (decText v.natAbs) (decide (v < 0)) = (v, 0) := by
  obtain ⟨f1, f2, f3, f4⟩ := digits_facts h
  have h1 := h.1
  have h2 := h.2
  unfold digitsEnd
  rw [if_neg (by rintro (e | e); exact f3 (List.eq_nil_of_length_eq_zero e); omega), if_pos f1, f2]
  unfold refEnd
  by_cases hv : v < 0
  · have e : -((v.natAbs : Nat) : Int) = v := by omega
    rw [decide_eq_true hv, if_pos rfl, e, if_neg (by rintro (⟨_, e⟩ | ⟨e, _⟩); omega; cases e), if_pos rfl]
  · have e : ((v.natAbs : Nat) : Int) = v := by omega
    have e1 : (if (false = true) then -((v.natAbs : Nat) : Int) else ((v.natAbs : Nat) : Int)) = v := by rw [if_neg (by decide)]; exact e
    rw [decide_eq_false hv, e1, if_neg (by rintro (⟨e, _⟩ | ⟨_, e⟩); cases e; omega), if_pos rfl]
theorem ref_parse (s : ByteArray) : Ev (fun k => cambistref01_Parse.f k s) (parseOf s.data.toList) := by
  have hl := size_len s
  have fin : ∀ (ds : ByteArray) (less : Bool), (∀ v, in64 v → intText v = s.data.toList → ds.data.toList = decText v.natAbs ∧ less = decide (v < 0)) → digitsEnd s.data.toList ds.data.toList less = parseOf s.data.toList := by
    intro ds less h
    rcases parseOf_cases s.data.toList with ⟨v, hv, ht, hp⟩ | ⟨hno, hp⟩
    · obtain ⟨e1, e2⟩ := h v hv ht
      rw [hp, e1, e2, ← ht]
      exact digitsEnd_yes hv
    · rw [hp]
      exact digitsEnd_no hno
  unfold cambistref01_Parse.f
  by_cases h0 : (s.size : Int) > 0
  · have hlt : 0 < s.data.toList.length := by omega
    refine ev_pos h0 (ev_pos h0 ?_)
    rw [show bt s 0 = bt s ((0 : Nat) : Int) from rfl, bt_get s 0 hlt]
    obtain ⟨c, r, hL⟩ : ∃ c r, s.data.toList = c :: r := by
      match hh : s.data.toList with
      | [] => rw [hh] at hlt; simp at hlt
      | c :: r => exact ⟨c, r, rfl⟩
    · have hc0 : s.data.toList[0] = c := by simp [hL]
      rw [hc0]
      refine ev_succ ?_
      simp only [cambistref01_Parse.j0]
      by_cases hc : c.toNat = 45
      · have e : ((c.toNat : Int) == 45) = true := by rw [hc]; rfl
        rw [e]
        refine ev_pos rfl (ev_pos (by omega) ?_)
        refine ev_eq (fin _ _ ?_) (parse_digits_end s _ true)
        intro v hv ht
        have hd : (s.extract 1 s.size).data.toList = r := by
          rw [ByteArray.data_extract, Array.toList_extract]
          simp [hL, List.extract, ← hl]
        rw [hd]
        rw [hL] at ht
        unfold intText at ht
        by_cases hn : v < 0
        · rw [if_pos hn] at ht
          exact ⟨(List.cons.inj ht).2.symm, (decide_eq_true hn).symm⟩
        · exfalso
          rw [if_neg hn, show v.toNat = v.natAbs by omega] at ht
          have := (digits_facts hv).1 c (by rw [ht]; exact List.mem_cons_self ..)
          unfold isTen at this
          omega
      · have e : ((c.toNat : Int) == 45) = false := beq_eq_false_iff_ne.2 (by omega)
        rw [e]
        refine ev_neg (by decide) ?_
        refine ev_eq (fin _ _ ?_) (parse_digits_end s s false)
        intro v hv ht
        rw [hL] at ht ⊢
        unfold intText at ht
        by_cases hn : v < 0
        · exfalso
          rw [if_pos hn] at ht
          have := (List.cons.inj ht).1
          rw [← this] at hc
          exact hc rfl
        · rw [if_neg hn, show v.toNat = v.natAbs by omega] at ht
          exact ⟨ht.symm, (decide_eq_false hn).symm⟩
  · refine ev_neg h0 (ev_succ ?_)
    simp only [cambistref01_Parse.j0]
    refine ev_neg (by decide) (ev_eq (fin _ _ ?_) (parse_digits_end s s false))
    intro v hv ht
    exfalso
    have hnil : s.data.toList = [] := List.eq_nil_of_length_eq_zero (by omega)
    rw [hnil] at ht
    unfold intText at ht
    split at ht
    · cases ht
    · rename_i hn
      rw [show v.toNat = v.natAbs by omega] at ht
      exact (digits_facts hv).2.2.1 ht
theorem parse_some (s : ByteArray) (h : s.size ≤ 140737488351232) : coin_Parse.f s = some (parseOf s.data.toList) := if_pos h
end Go.Proofs.YtnngbnhbmgdkoaaGreatDoor.E
namespace Go.Proofs.YtnngbnhbmgdkoaaGreatDoor.E
open Go.RowKit Go.Proofs.YtnngbnhbmgdkoaaGreatDoor.P Go.Proofs.YtnngbnhbmgdkoaaGreatDoorW.PrintWords Go.Proofs.YtnngbnhbmgdkoaaGreatDoorW.PrintLast
theorem ref_add {a b : Int} (ha : in64 a) (hb : in64 b) : cambistref01_Add.f a b = some (outOf (a + b)) := by
  have h1 := ha.1
  have h2 := ha.2
  have h3 := hb.1
  have h4 := hb.2
  unfold cambistref01_Add.f
  by_cases hp : b > 0
  · rw [if_pos hp, wrap_in (x := 9223372036854775807 - b) (by omega) (by omega)]
    by_cases h : in64 (a + b)
    · rw [if_neg (by unfold in64 at h; omega), if_neg (by omega), outOf_in h, wrap64_in h]
    · rw [if_pos (by unfold in64 at h; omega), outOf_over h]
  · rw [if_neg hp]
    by_cases hn : b < 0
    · rw [if_pos hn, wrap_in (x := -9223372036854775808 - b) (by omega) (by omega)]
      by_cases h : in64 (a + b)
      · rw [if_neg (by unfold in64 at h; omega), outOf_in h, wrap64_in h]
      · rw [if_pos (by unfold in64 at h; omega), outOf_over h]
    · have h : in64 (a + b) := by unfold in64; omega
      rw [if_neg hn, outOf_in h, wrap64_in h]
end Go.Proofs.YtnngbnhbmgdkoaaGreatDoor.E
namespace Go.Proofs.YtnngbnhbmgdkoaaGreatDoor.E
open Go.RowKit Go.Proofs.YtnngbnhbmgdkoaaGreatDoor.P Go.Proofs.YtnngbnhbmgdkoaaGreatDoorW.PrintWords Go.Proofs.YtnngbnhbmgdkoaaGreatDoorW.PrintLast
def Ups (l : List Int) : Prop := ∀ x ∈ l, in64 x ∧ 0 ≤ x
def Downs (l : List Int) : Prop := ∀ x ∈ l, in64 x ∧ x < 0
theorem ups_sum {l : List Int} (h : Ups l) : 0 ≤ sumI l := by
  induction l with
  | nil => exact Int.le_refl _
  | cons x l ih =>
    have h1 := (h x (List.mem_cons_self ..)).2
    have h2 := ih (fun y hy => h y (List.mem_cons_of_mem _ hy))
    simp only [sumI]
    omega
theorem downs_sum {l : List Int} (h : Downs l) : sumI l ≤ 0 := by
  induction l with
  | nil => exact Int.le_refl _
  | cons x l ih =>
    have h1 := (h x (List.mem_cons_self ..)).2
    have h2 := ih (fun y hy => h y (List.mem_cons_of_mem _ hy))
    simp only [sumI]
    omega
theorem sum_turns : ∀ (n : Nat) (up down : List Int) (s : Int), up.length + down.length = n → in64 s → Ups up → Downs down → Ev (fun k => cambistref01_Sum.l1 k up down s) (outOf (s + sumI up + sumI down)) := by
  intro n
  induction n with
  | zero =>
    intro up down s hn hs _ _
    have hu : up = [] := List.eq_nil_of_length_eq_zero (by omega)
    have hd : down = [] := List.eq_nil_of_length_eq_zero (by omega)
    subst hu hd
    refine ev_succ ?_
    simp only [cambistref01_Sum.l1]
    refine ev_neg (by decide) (ev_succ ?_)
    simp only [cambistref01_Sum.j2]
    refine ev_neg (by decide) (ev_some ?_)
    rw [outOf_in (by simpa [sumI] using hs)]
    simp [sumI]
  | succ n ih =>
    intro up down s hn hs hU hD
    refine ev_succ ?_
    simp only [cambistref01_Sum.l1]
    have s1 := hs.1
    have s2 := hs.2
    cases up with
    | nil =>
      cases down with
      | nil => simp at hn
      | cons d down =>
        have hd := hD d (List.mem_cons_self ..)
        have hd0 := hd.1.1
        have hd1 := hd.2
        have hD' : Downs down := fun y hy => hD y (List.mem_cons_of_mem _ hy)
        have hS := downs_sum hD'
        refine ev_neg (by simp) ?_
        rw [decide_eq_true (by simp <;> omega)]
        refine ev_succ ?_
        simp only [cambistref01_Sum.j2]
        refine ev_pos trivial (ev_neg (by simp) ?_)
        rw [beq_eq_false_iff_ne.2 (by simp <;> omega)]
        refine ev_succ ?_
        simp only [cambistref01_Sum.j3]
        refine ev_neg (by decide) (ev_neg (by simp) (ev_succ ?_))
        simp only [cambistref01_Sum.j4]
        refine ev_pos (by simp) (ev_pos (by simp <;> omega) (ev_opt (ref_add hs (b := d) hd.1) ?_))
        by_cases h : in64 (s + d)
        · rw [outOf_in h]
          refine ev_pos rfl (ev_pos (by simp <;> omega) ?_)
          refine ev_eq ?_ (ih [] down (s + d) (by simpa using hn) h (fun y hy => by cases hy) hD')
          congr 1
          simp only [sumI]
          omega
        · rw [outOf_over h]
          refine ev_neg (by decide) (ev_some ?_)
          rw [outOf_over]
          simp only [sumI]
          unfold in64 at h ⊢
          omega
    | cons u up =>
      have hu := hU u (List.mem_cons_self ..)
      have hu0 := hu.1.2
      have hu1 := hu.2
      have hU' : Ups up := fun y hy => hU y (List.mem_cons_of_mem _ hy)
      have hS := ups_sum hU'
      refine ev_pos (by simp <;> omega) (ev_succ ?_)
      simp only [cambistref01_Sum.j2]
      refine ev_pos trivial (ev_pos (by simp <;> omega) ?_)
      have up_first : (s < 0 ∨ down = []) → Ev (fun k => cambistref01_Sum.j3 k (u :: up) down s true) (outOf (s + sumI (u :: up) + sumI down)) := by
        intro hor
        refine ev_succ ?_
        simp only [cambistref01_Sum.j3]
        refine ev_pos trivial (ev_pos (by simp <;> omega) (ev_opt (ref_add hs (b := u) hu.1) ?_))
        by_cases h : in64 (s + u)
        · rw [outOf_in h]
          refine ev_pos rfl (ev_pos (by simp <;> omega) ?_)
          refine ev_eq ?_ (ih up down (s + u) (by simp only [List.length_cons] at hn; omega) h hU' hD)
          congr 1
          simp only [sumI]
          omega
        · rw [outOf_over h]
          refine ev_neg (by decide) (ev_some ?_)
          rw [outOf_over]
          rcases hor with hor | rfl
          · exfalso
            apply h
            unfold in64
            omega
          · simp only [sumI]
            unfold in64 at h ⊢
            omega
      by_cases hneg : s < 0
      · exact ev_pos hneg (up_first (.inl hneg))
      · refine ev_neg hneg ?_
        cases down with
        | nil => exact ev_pos rfl (up_first (.inr rfl))
        | cons d down =>
          have hd := hD d (List.mem_cons_self ..)
          have hd0 := hd.1.1
          have hd1 := hd.2
          have hD' : Downs down := fun y hy => hD y (List.mem_cons_of_mem _ hy)
          refine ev_neg (by simp <;> omega) ?_
          rw [beq_eq_false_iff_ne.2 (by simp <;> omega)]
          refine ev_succ ?_
          simp only [cambistref01_Sum.j3]
          refine ev_neg (by decide) (ev_pos (by simp <;> omega) (ev_pos (by omega) (ev_succ ?_)))
          simp only [cambistref01_Sum.j4]
          refine ev_pos trivial (ev_pos (by simp <;> omega) (ev_opt (ref_add hs (b := d) hd.1) ?_))
          have h : in64 (s + d) := by unfold in64; omega
          rw [outOf_in h]
          refine ev_pos rfl (ev_pos (by simp <;> omega) ?_)
          refine ev_eq ?_ (ih (u :: up) down (s + d) (by simp only [List.length_cons] at hn ⊢; omega) h hU hD')
          congr 1
          simp only [sumI]
          omega
theorem rd_in (l : List Int) (i : Nat) (_h : i < l.length) : rd l (i : Int) = l.getD i 0 := by simp [rd]
theorem getD_mem (l : List Int) (i : Nat) (h : i < l.length) : l.getD i 0 ∈ l := by
  rw [List.getD_eq_getElem?_getD, List.getElem?_eq_getElem h]
  exact List.getElem_mem h
theorem sum_parted (l : List Int) (hl : ∀ x ∈ l, in64 x) (hn : l.length ≤ 1048576) : ∀ (m i : Nat) (up down : List Int), l.length - i = m → i ≤ l.length → up.length + down.length = i → Ups up → Downs down → sumI up + sumI down = sumI (l.take i) → Ev (fun k => cambistref01_Sum.l0 k l up down (i : Int)) (outOf (sumI l)) := by
  intro m
  induction m with
  | zero =>
    intro i up down hm hi hlen hU hD hsum
    obtain rfl : i = l.length := by omega
    rw [List.take_length] at hsum
    refine ev_succ ?_
    simp only [cambistref01_Sum.l0]
    refine ev_neg (by omega) (ev_eq ?_ (sum_turns _ up down 0 rfl (by unfold in64; omega) hU hD))
    congr 1
    omega
  | succ m ih =>
    intro i up down hm hi hlen hU hD hsum
    have hlt : i < l.length := by omega
    have hx := hl _ (getD_mem l i hlt)
    have hs' : sumI (l.take (i + 1)) = sumI (l.take i) + l.getD i 0 := by rw [take_next l i hlt, sumI_app]; simp [sumI]
    refine ev_succ ?_
    simp only [cambistref01_Sum.l0]
    rw [rd_in l i hlt, wrap_next (n := 1048576) (by omega) (by decide)]
    refine ev_pos (by omega) (ev_pos (by omega) ?_)
    by_cases h0 : l.getD i 0 ≥ 0
    · refine ev_pos h0 (ev_pos (by omega) (ih (i + 1) _ down (by omega) (by omega) (by simp <;> omega) ?_ hD ?_))
      · intro x hx'
        rcases List.mem_append.1 hx' with hx' | hx'
        · exact hU x hx'
        · rw [List.mem_singleton.1 hx']
          exact ⟨hx, h0⟩
      · rw [hs', sumI_app]
        simp only [sumI]
        omega
    · refine ev_neg h0 (ev_pos (by omega) (ih (i + 1) up _ (by omega) (by omega) (by simp <;> omega) hU ?_ ?_))
      · intro x hx'
        rcases List.mem_append.1 hx' with hx' | hx'
        · exact hD x hx'
        · rw [List.mem_singleton.1 hx']
          exact ⟨hx, by omega⟩
      · rw [hs', sumI_app]
        simp only [sumI]
        omega
theorem ref_sum (l : List Int) (hl : ∀ x ∈ l, in64 x) (hn : l.length ≤ 1048576) : Ev (fun k => cambistref01_Sum.f k l) (outOf (sumI l)) :=
  sum_parted l hl hn _ 0 [] [] rfl (Nat.zero_le _) rfl (fun x hx => by cases hx) (fun x hx => by cases hx) rfl
end Go.Proofs.YtnngbnhbmgdkoaaGreatDoor.E
namespace Go.Proofs.YtnngbnhbmgdkoaaGreatDoor.E
open Go.RowKit Go.Proofs.YtnngbnhbmgdkoaaGreatDoor.P Go.Proofs.YtnngbnhbmgdkoaaGreatDoorW.PrintWords Go.Proofs.YtnngbnhbmgdkoaaGreatDoorW.PrintLast
/-- Pieces, the first of them behind what stands before it. -/
def glue (last : List UInt8) : List (List UInt8) → List ByteArray
  | [] => []
  | h :: t => ⟨(last ++ h).toArray⟩ :: t.map fun l => ⟨l.toArray⟩
theorem glue_nil (L : List (List UInt8)) : glue [] L = L.map fun l => ⟨l.toArray⟩ := by cases L <;> rfl
theorem ref_words_loop (s : ByteArray) (hs : s.size ≤ 1000000) : ∀ (m i : Nat) (acc : List ByteArray) (last : ByteArray), s.size - i = m → i ≤ s.size → acc.length ≤ i → last.size ≤ i →
    Ev (fun k => cambistref19_Words.l0 k s acc last (i : Int)) (acc ++ glue last.data.toList (cutAt 32 (s.data.toList.drop i))) := by
  have hlen := size_len s
  intro m
  induction m with
  | zero =>
    intro i acc last hm hi ha hl
    obtain rfl : i = s.size := by omega
    have he : s.data.toList.drop s.size = [] := List.drop_of_length_le (by omega)
    rw [he]
    refine ev_succ ?_
    simp only [cambistref19_Words.l0]
    refine ev_neg (by omega) (ev_pos (by omega) (ev_some ?_))
    exact congrArg (fun x => acc ++ [x]) (text_ext (by simp) : last = (⟨(last.data.toList ++ []).toArray⟩ : ByteArray))
  | succ m ih =>
    intro i acc last hm hi ha hl
    have hlt : i < s.data.toList.length := by omega
    have hdr : s.data.toList.drop i = s.data.toList[i] :: s.data.toList.drop (i + 1) := List.drop_eq_getElem_cons hlt
    refine ev_succ ?_
    simp only [cambistref19_Words.l0]
    rw [bt_get s i hlt, wrap_next (n := s.size) hi (by omega), Int.toNat_natCast, Int.toNat_natCast]
    have hx : (s.extract i (i + 1)).data.toList = [s.data.toList[i]] := by
      rw [ByteArray.data_extract, Array.toList_extract]
      unfold List.extract
      rw [hdr, show i + 1 - i = 1 by omega]
      rfl
    have hxs : (s.extract i (i + 1)).size = 1 := by rw [← size_len, hx]; rfl
    rw [hdr]
    generalize s.data.toList[i] = c at *
    refine ev_pos (by omega) (ev_pos (by omega) ?_)
    by_cases hc : c = 32
    · subst hc
      refine ev_pos rfl (ev_pos (by omega) ?_)
      refine ev_eq ?_ (ih (i + 1) (acc ++ [last]) ⟨#[]⟩ (by omega) (by omega) (by simp; omega) (by show 0 ≤ _; omega))
      rw [cutAt_cons_eq]
      rw [List.append_assoc]
      show acc ++ (last :: glue [] (cutAt 32 (s.data.toList.drop (i + 1)))) = acc ++ (⟨(last.data.toList ++ []).toArray⟩ :: (cutAt 32 (s.data.toList.drop (i + 1))).map fun l => ⟨l.toArray⟩)
      rw [glue_nil]
      exact congrArg (fun x => acc ++ (x :: _)) (text_ext (by simp) : last = (⟨(last.data.toList ++ []).toArray⟩ : ByteArray))
    · refine ev_neg (fun e => hc (by
        have e2 : c.toNat = 32 := by omega
        exact UInt8.toNat_inj.1 e2)) (ev_pos (by omega) (ev_pos (by omega) (ev_pos (by rw [hxs]; omega) ?_)))
      refine ev_eq ?_ (ih (i + 1) acc (last ++ s.extract i (i + 1)) (by omega) (by omega) (by omega) (by rw [ByteArray.size_append, hxs]; omega))
      obtain ⟨x, r, e1, e2⟩ := cutAt_cons_ne hc (s.data.toList.drop (i + 1))
      rw [e1, e2, ByteArray.data_append, Array.toList_append, hx]
      show acc ++ (⟨((last.data.toList ++ [c]) ++ x).toArray⟩ :: _) = acc ++ (⟨(last.data.toList ++ (c :: x)).toArray⟩ :: _)
      rw [List.append_assoc]
      rfl
theorem ref_words (s : ByteArray) (hs : s.size ≤ 1000000) : Ev (fun k => cambistref19_Words.f k s) (splitOn s 32) := by
  refine ev_eq ?_ (ref_words_loop s hs _ 0 [] ⟨#[]⟩ rfl (Nat.zero_le _) (Nat.le_refl _) (Nat.le_refl _))
  exact glue_nil _
/-- The lines of a text that ends with one; none: of another. -/
def finL (L : List ByteArray) : List ByteArray := if L.getD (L.length - 1) ⟨#[]⟩ = ⟨#[]⟩ then L.take (L.length - 1) else []
theorem finL_snoc (L : List ByteArray) (x : ByteArray) : finL (L ++ [x]) = if x = ⟨#[]⟩ then L else [] := by
  unfold finL
  rw [List.length_append, List.length_singleton, Nat.add_sub_cancel, getD_last, List.take_left']
  rfl
theorem ref_lines_loop (s : ByteArray) (hs : s.size ≤ 1000000) : ∀ (m i : Nat) (acc : List ByteArray) (last : ByteArray), s.size - i = m → i ≤ s.size → acc.length ≤ i → last.size ≤ i →
    Ev (fun k => cambistref19_lines.l0 k s acc last (i : Int)) (finL (acc ++ glue last.data.toList (cutAt 10 (s.data.toList.drop i)))) := by
  have hlen := size_len s
  intro m
  induction m with
  | zero =>
    intro i acc last hm hi ha hl
    obtain rfl : i = s.size := by omega
    have he : s.data.toList.drop s.size = [] := List.drop_of_length_le (by omega)
    rw [he]
    have hz : glue last.data.toList (cutAt 10 []) = [last] := congrArg (fun x => [x]) (text_ext (by simp) : (⟨(last.data.toList ++ []).toArray⟩ : ByteArray) = last)
    rw [hz, finL_snoc]
    refine ev_succ ?_
    simp only [cambistref19_lines.l0]
    refine ev_neg (by omega) ?_
    have hq : last.toList = ([] : List UInt8) ↔ last = ⟨#[]⟩ := by
      rw [toList_data]
      exact ⟨fun h => text_ext h, fun h => by rw [h]⟩
    by_cases h : last = ⟨#[]⟩
    · exact ev_pos (hq.2 h) (ev_some (by rw [if_pos h]))
    · exact ev_neg (fun e => h (hq.1 e)) (ev_some (by rw [if_neg h]))
  | succ m ih =>
    intro i acc last hm hi ha hl
    have hlt : i < s.data.toList.length := by omega
    have hdr : s.data.toList.drop i = s.data.toList[i] :: s.data.toList.drop (i + 1) := List.drop_eq_getElem_cons hlt
    refine ev_succ ?_
    simp only [cambistref19_lines.l0]
    rw [bt_get s i hlt, wrap_next (n := s.size) hi (by omega), Int.toNat_natCast, Int.toNat_natCast]
    have hx : (s.extract i (i + 1)).data.toList = [s.data.toList[i]] := by
      rw [ByteArray.data_extract, Array.toList_extract]
      unfold List.extract
      rw [hdr, show i + 1 - i = 1 by omega]
      rfl
    have hxs : (s.extract i (i + 1)).size = 1 := by rw [← size_len, hx]; rfl
    rw [hdr]
    generalize s.data.toList[i] = c at *
    refine ev_pos (by omega) (ev_pos (by omega) ?_)
    by_cases hc : c = 10
    · subst hc
      refine ev_pos rfl (ev_pos (by omega) ?_)
      refine ev_eq ?_ (ih (i + 1) (acc ++ [last]) ⟨#[]⟩ (by omega) (by omega) (by simp; omega) (by show 0 ≤ _; omega))
      rw [cutAt_cons_eq]
      rw [List.append_assoc]
      congr 1
      show acc ++ (last :: glue [] (cutAt 10 (s.data.toList.drop (i + 1)))) = acc ++ (⟨(last.data.toList ++ []).toArray⟩ :: (cutAt 10 (s.data.toList.drop (i + 1))).map fun l => ⟨l.toArray⟩)
      rw [glue_nil]
      exact congrArg (fun x => acc ++ (x :: _)) (text_ext (by simp) : last = (⟨(last.data.toList ++ []).toArray⟩ : ByteArray))
    · refine ev_neg (fun e => hc (by
        have e2 : c.toNat = 10 := by omega
        exact UInt8.toNat_inj.1 e2)) (ev_pos (by omega) (ev_pos (by omega) (ev_pos (by rw [hxs]; omega) ?_)))
      refine ev_eq ?_ (ih (i + 1) acc (last ++ s.extract i (i + 1)) (by omega) (by omega) (by omega) (by rw [ByteArray.size_append, hxs]; omega))
      obtain ⟨x, r, e1, e2⟩ := cutAt_cons_ne hc (s.data.toList.drop (i + 1))
      rw [e1, e2, ByteArray.data_append, Array.toList_append, hx]
      congr 1
      show acc ++ (⟨((last.data.toList ++ [c]) ++ x).toArray⟩ :: _) = acc ++ (⟨(last.data.toList ++ (c :: x)).toArray⟩ :: _)
      rw [List.append_assoc]
      rfl
theorem ref_lines (s : ByteArray) (hs : s.size ≤ 1000000) : Ev (fun k => cambistref19_lines.f k s) (finL (splitOn s 10)) := by
  refine ev_eq ?_ (ref_lines_loop s hs _ 0 [] ⟨#[]⟩ rfl (Nat.zero_le _) (Nat.le_refl _) (Nat.le_refl _))
  congr 1
  exact glue_nil _
theorem dec_loop : ∀ (k n : Nat) (out : ByteArray), n < 10 ^ k → n < 18446744073709551616 → out.size + k ≤ 100 → Ev (fun j => cambistref19_Decimal.l0 j (n : Int) out) ⟨(front k n out.data.toList).toArray⟩ := by
  intro k
  have stop : ∀ (k : Nat) (out : ByteArray), Ev (fun j => cambistref19_Decimal.l0 j (0 : Int) out) ⟨(front k 0 out.data.toList).toArray⟩ := by
    intro k out
    refine ev_succ ?_
    simp only [cambistref19_Decimal.l0]
    refine ev_neg (by omega) (ev_some ?_)
    apply text_ext
    simp [front]
  induction k with
  | zero =>
    intro n out hn _ hs
    obtain rfl : n = 0 := by simpa using hn
    exact stop 0 out
  | succ k ih =>
    intro n out hn h64 hs
    rcases Nat.eq_zero_or_pos n with h0 | h0
    · subst h0
      exact stop _ out
    · refine ev_succ ?_
      simp only [cambistref19_Decimal.l0]
      refine ev_pos (by omega) (ev_opt rfl ?_)
      rw [ten_sign n h64, ten_rest n h64]
      refine ev_pos (by show 1 + out.size ≤ _; omega) ?_
      refine ev_eq ?_ (ih (n / 10) (⟨#[UInt8.ofNat (48 + n % 10)]⟩ ++ out) (by rw [Nat.pow_succ] at hn; omega) (by omega) (by rw [ByteArray.size_append]; show 1 + out.size + k ≤ 100; omega))
      congr 2
      rw [← front_next k n _ hn h0]
      simp
theorem dec_ev {n : Int} (h0 : 0 ≤ n) (h1 : n < 18446744073709551616) : Ev (fun k => cambistref19_Decimal.f k n) (decOf n) := by
  obtain ⟨m, rfl⟩ : ∃ m : Nat, n = m := ⟨n.toNat, by omega⟩
  unfold cambistref19_Decimal.f
  rw [ten_sign _ (by omega), ten_rest _ (by omega)]
  refine ev_eq ?_ (dec_loop 19 (m / 10) ⟨#[UInt8.ofNat (48 + m % 10)]⟩ (by omega) (by omega) (by show 1 + 19 ≤ 100; decide))
  unfold decOf
  congr 2
  show front 19 (m / 10) [UInt8.ofNat (48 + m % 10)] = decText (m : Int).toNat
  rw [Int.toNat_natCast]
  unfold decText
  rw [decRec]
  unfold front
  by_cases h10 : m < 10
  · rw [if_pos (by omega), if_pos h10, Nat.mod_eq_of_lt h10]
    rfl
  · rw [if_neg (by omega), if_neg h10]
/-- What the document reckons of a text's bytes. -/
def unsF (acc : Nat) (l : List UInt8) : Nat := l.foldl (fun a c => (a * 10 % 18446744073709551616 + (c.toNat + 208) % 256) % 18446744073709551616) acc
def unsR (s : ByteArray) : Int := if decOf (unsF 0 s.data.toList : Nat) = s then (unsF 0 s.data.toList : Nat) else 0
theorem unsF_lt (l : List UInt8) : ∀ acc, acc < 18446744073709551616 → unsF acc l < 18446744073709551616 := by
  induction l with
  | nil => exact fun acc h => h
  | cons c t ih => exact fun acc _ => ih _ (Nat.mod_lt _ (by decide))
theorem unsF_ten (l : List UInt8) : ∀ acc, (∀ c ∈ l, isTen c) → foldTen acc l < 18446744073709551616 → unsF acc l = foldTen acc l := by
  induction l with
  | nil => exact fun acc _ _ => rfl
  | cons c t ih =>
    intro acc h hl
    have hc := h c (List.mem_cons_self ..)
    unfold isTen at hc
    rw [foldTen_cons] at hl
    have hge := foldTen_le t (acc * 10 + (c.toNat - 48))
    show unsF ((acc * 10 % 18446744073709551616 + (c.toNat + 208) % 256) % 18446744073709551616) t = foldTen acc (c :: t)
    have e : (acc * 10 % 18446744073709551616 + (c.toNat + 208) % 256) % 18446744073709551616 = acc * 10 + (c.toNat - 48) := by omega
    rw [e, foldTen_cons]
    exact ih _ (fun x hx => h x (List.mem_cons_of_mem _ hx)) hl
theorem unsR_in (s : ByteArray) : 0 ≤ unsR s ∧ unsR s < 18446744073709551616 := by
  have := unsF_lt s.data.toList 0 (by decide)
  unfold unsR
  split <;> omega
theorem unsR_dec {n : Int} (h0 : 0 ≤ n) (h1 : n < 18446744073709551616) : unsR (decOf n) = n := by
  obtain ⟨f1, f2, _⟩ := decText_facts n.toNat (by omega)
  have e : (decOf n).data.toList = decText n.toNat := rfl
  have e2 : unsF 0 (decText n.toNat) = n.toNat := by
    rw [unsF_ten _ 0 f1 (by rw [f2]; omega), f2]
  unfold unsR
  rw [e, e2, Int.toNat_of_nonneg h0, if_pos rfl]
theorem uns_loop (s : ByteArray) (hs : s.size ≤ 1000000) : ∀ (m i acc : Nat), s.size - i = m → i ≤ s.size → acc < 18446744073709551616 → unsF acc (s.data.toList.drop i) = unsF 0 s.data.toList →
    Ev (fun k => cambistref19_Unsigned.l0 k s (acc : Int) (i : Int)) (unsR s) := by
  have hlen := size_len s
  intro m
  induction m with
  | zero =>
    intro i acc hm hi ha he
    obtain rfl : i = s.size := by omega
    rw [List.drop_of_length_le (by omega)] at he
    have he2 : acc = unsF 0 s.data.toList := he
    refine ev_succ ?_
    simp only [cambistref19_Unsigned.l0]
    refine ev_neg (by omega) (ev_call (dec_ev (Int.natCast_nonneg _) (by omega)) ?_)
    unfold unsR
    rw [← he2]
    by_cases h : decOf (acc : Int) = s
    · exact ev_pos (toList_inj.2 h) (ev_some (by rw [if_pos h]))
    · exact ev_neg (fun e => h (toList_inj.1 e)) (ev_some (by rw [if_neg h]))
  | succ m ih =>
    intro i acc hm hi ha he
    have hlt : i < s.data.toList.length := by omega
    rw [List.drop_eq_getElem_cons hlt] at he
    refine ev_succ ?_
    simp only [cambistref19_Unsigned.l0]
    rw [bt_get s i hlt, wrap_next (n := s.size) hi (by omega)]
    generalize s.data.toList[i] = c at *
    have hc := c.toNat_lt
    have e : IntKind.u64.wrap ((IntKind.u64.wrap ((acc : Int) * 10)) + (((c.toNat : Int) - 48) % 256)) = (((acc * 10 % 18446744073709551616 + (c.toNat + 208) % 256) % 18446744073709551616 : Nat) : Int) := by
      rw [IntKind.wrap_u64, IntKind.wrap_u64]
      omega
    rw [e]
    exact ev_pos (by omega) (ev_pos (by omega) (ih (i + 1) _ (by omega) (by omega) (Nat.mod_lt _ (by decide)) he))
theorem uns_ev (s : ByteArray) (hs : s.size ≤ 1000000) : Ev (fun k => cambistref19_Unsigned.f k s) (unsR s) := uns_loop s hs _ 0 0 rfl (Nat.zero_le _) (by decide) rfl
theorem amount_ev (s : ByteArray) : Ev (fun k => cambistref19_amount.f k s) (parseOf s.data.toList).1 := ev_call (ref_parse s) (ev_some rfl)
theorem parseOf_in (l : List UInt8) : in64 (parseOf l).1 := by
  rcases parseOf_cases l with ⟨v, hv, _, e⟩ | ⟨_, e⟩
  · rw [e]
    exact hv
  · rw [e]
    unfold in64
    omega
theorem rwhole_loop (op : Int) (ls : List Row_) (who asset : ByteArray) (day o2 cl : Int) (ho : in64 op) (h : rows64 ls) (hl : ls.length ≤ 1000000) : ∀ (m i : Nat), ls.length - i = m → i ≤ ls.length → Ev (fun k => cambistref19_whole.l0 k (op :: amtsL (ls.take i)) (i : Int) who asset day o2 ls cl) (outOf (op + sumI (amtsL ls))) := by
  intro m
  induction m with
  | zero =>
    intro i hm hi
    obtain rfl : i = ls.length := by omega
    refine ev_succ ?_
    simp only [cambistref19_whole.l0]
    rw [List.take_length]
    refine ev_neg (by omega) (ev_call (ref_sum _ (amtsL_in ho h) (by simp [amtsL]; omega)) (ev_some rfl))
  | succ m ih =>
    intro i hm hi
    have hlt : i < ls.length := by omega
    refine ev_succ ?_
    simp only [cambistref19_whole.l0]
    rw [rd_row ls i hlt, amtsL_next op ls i hlt, wrap_sm hi hl]
    have hln : (op :: amtsL (ls.take i)).length < 17592186044416 := by
      simp only [amtsL, List.length_cons, List.length_map, List.length_take]
      omega
    exact ev_pos (by omega) (ev_pos (by omega) (ev_pos hln (ih (i + 1) (by omega) (by omega))))
theorem rwhole_ev (who asset : ByteArray) (day op : Int) (ls : List Row_) (cl : Int) (ho : in64 op) (h : rows64 ls) (hl : ls.length ≤ 1000000) : Ev (fun k => cambistref19_whole.f k who asset day op ls cl) (outOf (op + sumI (amtsL ls))) :=
  rwhole_loop op ls who asset day op cl ho h hl _ 0 rfl (by omega)
theorem rcheck_loop (who asset : ByteArray) (day op : Int) (ls : List Row_) (cl : Int) (hs : ∀ x ∈ ls, x.f1.size ≤ 140737488351232) (hl : ls.length ≤ 1000000) : ∀ (m i : Nat), ls.length - i = m → i ≤ ls.length → Ev (fun k => cambistref19_Check.l0 k (i : Int) who asset day op ls cl) (slipC ((ls.drop i).all rowOk)) := by
  intro m
  induction m with
  | zero =>
    intro i hm hi
    obtain rfl : i = ls.length := by omega
    refine ev_succ ?_
    simp only [cambistref19_Check.l0]
    exact ev_neg (by omega) (ev_some (by simp [slipC]))
  | succ m ih =>
    intro i hm hi
    have hlt : i < ls.length := by omega
    have hr : rowOk ls[i] = (isPart isSign 12 ls[i].f1 && decide (ls[i].f2 ≠ 0)) := rfl
    refine ev_succ ?_
    simp only [cambistref19_Check.l0]
    rw [rd_row ls i hlt, wrap_sm hi hl, List.drop_eq_getElem_cons hlt, List.all_cons, hr]
    refine ev_pos (by omega) (ev_pos (by omega) (ev_call (ref_word _ (hs _ (List.getElem_mem hlt))) ?_))
    cases h1 : isPart isSign 12 ls[i].f1 with
    | false => exact ev_neg (by decide) (ev_some (by simp [slipC]))
    | true =>
      refine ev_pos rfl ?_
      by_cases h2 : ls[i].f2 = 0
      · exact ev_pos h2 (ev_some (by simp [slipC, h2]))
      · refine ev_neg h2 (ev_eq ?_ (ih (i + 1) (by omega) (by omega)))
        simp [h2]
theorem rchk_ev (who asset : ByteArray) (day op : Int) (ls : List Row_) (cl : Int) (hw : who.size ≤ 140737488351232) (ha : asset.size ≤ 140737488351232) (ho : in64 op) (hc : in64 cl) (h : rows64 ls) (hs : ∀ x ∈ ls, x.f1.size ≤ 140737488351232) (hl : ls.length ≤ 1000000) :
    Ev (fun k => cambistref19_Check.f k who asset day op ls cl) (slipC (slipB who asset op ls cl)) := by
  have bad : slipB who asset op ls cl = false → Ev (fun k => cambistref19_Check.j0 k true who asset day op ls cl) (slipC (slipB who asset op ls cl)) := fun hb => by
    refine ev_succ ?_
    simp only [cambistref19_Check.j0]
    exact ev_pos (by first | rfl | trivial) (ev_some (by rw [hb]; rfl))
  have hB : slipB who asset op ls cl = (isWho who && isPart isUp 6 asset && (decide (ls.length ≤ 1000) && decide (op + sumI (amtsL ls) = cl)) && ls.all rowOk) := rfl
  unfold cambistref19_Check.f
  refine ev_call (ref_who who hw) (ev_call (ref_asset asset ha) (ev_call (rwhole_ev who asset day op ls cl ho h hl) ?_))
  cases h1 : isWho who with
  | false => exact ev_neg (by decide) (bad (by rw [hB, h1]; simp))
  | true =>
    refine ev_pos rfl ?_
    cases h2 : isPart isUp 6 asset with
    | false => exact ev_neg (by decide) (bad (by rw [hB, h2]; simp))
    | true =>
      refine ev_pos rfl ?_
      by_cases h3 : ls.length ≤ 1000
      · refine ev_neg (by omega) ?_
        by_cases h4 : in64 (op + sumI (amtsL ls))
        · rw [outOf_in h4]
          refine ev_pos rfl ?_
          simp only
          by_cases h5 : op + sumI (amtsL ls) = cl
          · have e : (op + sumI (amtsL ls) != cl) = false := by simp [h5]
            rw [e]
            refine ev_succ ?_
            simp only [cambistref19_Check.j0]
            refine ev_neg (by decide) (ev_eq ?_ (rcheck_loop who asset day op ls cl hs hl _ 0 rfl (by omega)))
            rw [hB, h1, h2, decide_eq_true h3, decide_eq_true h5, List.drop_zero]
            simp
          · have e : (op + sumI (amtsL ls) != cl) = true := by simp [h5]
            rw [e]
            exact bad (by rw [hB, decide_eq_false h5]; simp)
        · rw [outOf_over h4]
          have h5 : ¬ (op + sumI (amtsL ls) = cl) := fun e => h4 (by rw [e]; exact hc)
          exact ev_neg (by decide) (bad (by rw [hB, decide_eq_false h5]; simp))
      · exact ev_pos (by omega) (bad (by rw [hB, decide_eq_false h3]; simp))
theorem rtext_loop (who asset : ByteArray) (day op : Int) (ls : List Row_) (cl : Int) (hc : in64 cl) (hin : ∀ x ∈ ls, LineIn x) (hl : ls.length ≤ 1000) : ∀ (m i : Nat) (t : ByteArray), ls.length - i = m → i ≤ ls.length → t.size ≤ 10000 + 3000 * i →
    Ev (fun k => cambistref19_Text.l0 k t (i : Int) who asset day op ls cl) (⟨(t.data.toList ++ (ls.drop i).flatMap postOf ++ lineOf [kCl, amtOf cl]).toArray⟩, 0) := by
  intro m
  induction m with
  | zero =>
    intro i t hm hi ht
    obtain rfl : i = ls.length := by omega
    have ha := amtOf_size hc
    have hk : (⟨#[67, 76, 79, 83, 69, 32]⟩ : ByteArray).size = 6 := rfl
    refine ev_succ ?_
    simp only [cambistref19_Text.l0]
    refine ev_neg (by omega) (ev_pos (by omega) (ev_call (ref_text hc) ?_))
    show Ev (fun k => if (t ++ (⟨#[67, 76, 79, 83, 69, 32]⟩ : ByteArray)).size + (amtOf cl).size ≤ 9223372036854775807 then (if ((t ++ (⟨#[67, 76, 79, 83, 69, 32]⟩ : ByteArray)) ++ amtOf cl).size + 1 ≤ 9223372036854775807 then (some (((t ++ (⟨#[67, 76, 79, 83, 69, 32]⟩ : ByteArray)) ++ amtOf cl) ++ (⟨#[10]⟩ : ByteArray), 0)) else (none)) else (none)) _
    refine ev_pos (by simp only [ByteArray.size_append]; omega) (ev_pos (by simp only [ByteArray.size_append]; omega) (ev_some ?_))
    rw [List.drop_length]
    refine Prod.ext (text_ext ?_) rfl
    simp [ByteArray.data_append, lineOf, joinB_data, gl_cons, gl_one, kCl]
  | succ m ih =>
    intro i t hm hi ht
    have hlt : i < ls.length := by omega
    have hx := hin _ (List.getElem_mem hlt)
    refine ev_succ ?_
    simp only [cambistref19_Text.l0]
    rw [rd_row ls i hlt, wrap_sm hi (by omega), List.drop_eq_getElem_cons hlt, List.flatMap_cons]
    have hp := post_length hx
    generalize ls[i] = x at *
    obtain ⟨x1, x2, x3, x4⟩ := hx
    have hd := decOf_size x1 x2
    have ha := amtOf_size x4
    have hk : (⟨#[80, 79, 83, 84, 32]⟩ : ByteArray).size = 5 := rfl
    have hk1 : (⟨#[32]⟩ : ByteArray).size = 1 := rfl
    have hk2 : (⟨#[10]⟩ : ByteArray).size = 1 := rfl
    refine ev_pos (by omega) (ev_pos (by omega) (ev_pos (by omega) (ev_call (dec_ev x1 x2) ?_)))
    refine ev_pos (by simp only [ByteArray.size_append]; omega) (ev_pos (by simp only [ByteArray.size_append]; omega) (ev_pos (by simp only [ByteArray.size_append]; omega) (ev_pos (by simp only [ByteArray.size_append]; omega) (ev_call (show Ev (fun k => cambistref01_Text.f k x.f2) (amtOf x.f2) from ref_text x4) ?_))))
    refine ev_pos (by simp only [ByteArray.size_append]; omega) (ev_pos (by simp only [ByteArray.size_append]; omega) ?_)
    refine ev_eq ?_ (ih (i + 1) _ (by omega) (by omega) (by simp only [ByteArray.size_append]; omega))
    refine Prod.ext (text_ext ?_) rfl
    simp [ByteArray.data_append, postOf, lineOf, joinB_data, gl_cons, gl_one]
theorem rtext_ev (who asset : ByteArray) (day op : Int) (ls : List Row_) (cl : Int) (hw : who.size ≤ 140737488351232) (ha : asset.size ≤ 140737488351232) (hd : 0 ≤ day ∧ day < 18446744073709551616) (ho : in64 op) (hc : in64 cl) (hr : rowsIn64 ls) (hs : ∀ x ∈ ls, x.f1.size ≤ 140737488351232) (hl : ls.length ≤ 1000000) :
    Ev (fun k => cambistref19_Text.f k who asset day op ls cl) (if slipB who asset op ls cl = true then (sText who asset day op ls cl, 0) else (⟨#[]⟩, 190)) := by
  unfold cambistref19_Text.f
  refine ev_call (rchk_ev who asset day op ls cl hw ha ho hc (fun x hx => (hr x hx).2) hs hl) ?_
  cases hb : slipB who asset op ls cl with
  | false => exact ev_neg (by decide) (ev_some rfl)
  | true =>
    obtain ⟨i1, i2, i3, i4, i5, i6, i7, i8⟩ := slip_in hb hd ho hc hr
    have hdz := decOf_size i3 i4
    have haz := amtOf_size ho
    have hk : (⟨#[83, 84, 65, 84, 69, 77, 69, 78, 84, 32]⟩ : ByteArray).size = 10 := rfl
    have hk1 : (⟨#[32]⟩ : ByteArray).size = 1 := rfl
    have hk2 : (⟨#[10]⟩ : ByteArray).size = 1 := rfl
    have hk3 : (⟨#[10, 79, 80, 69, 78, 32]⟩ : ByteArray).size = 6 := rfl
    refine ev_pos rfl (ev_pos (by omega) (ev_pos (by simp only [ByteArray.size_append]; omega) (ev_pos (by simp only [ByteArray.size_append]; omega) (ev_pos (by simp only [ByteArray.size_append]; omega) (ev_call (dec_ev i3 i4) ?_)))))
    refine ev_pos (by simp only [ByteArray.size_append]; omega) (ev_pos (by simp only [ByteArray.size_append]; omega) (ev_call (show Ev (fun k => cambistref01_Text.f k op) (amtOf op) from ref_text ho) ?_))
    refine ev_pos (by simp only [ByteArray.size_append]; omega) (ev_pos (by simp only [ByteArray.size_append]; omega) ?_)
    refine ev_eq ?_ (rtext_loop who asset day op ls cl hc i8 i7 _ 0 _ rfl (by omega) (by simp only [ByteArray.size_append]; omega))
    refine Prod.ext (text_ext ?_) rfl
    simp [ByteArray.data_append, sText, textOf, headOf, lineOf, joinB_data, gl_cons, gl_one, kCl]
end Go.Proofs.YtnngbnhbmgdkoaaGreatDoor.E
namespace Go.Proofs.YtnngbnhbmgdkoaaGreatDoor.E
open Go.RowKit Go.Proofs.YtnngbnhbmgdkoaaGreatDoor.P Go.Proofs.YtnngbnhbmgdkoaaGreatDoorW.PrintWords Go.Proofs.YtnngbnhbmgdkoaaGreatDoorW.PrintLast
abbrev Out7 := ByteArray × ByteArray × Int × Int × List Row_ × Int × Int
def noneR : Out7 := (⟨#[]⟩, ⟨#[]⟩, 0, 0, [], 0, 190)
theorem rdOf_nat (L : List ByteArray) (i : Nat) (h : i < L.length) : rdOf ByteArray.empty L (i : Int) = L[i] := by
  unfold rdOf
  rw [Int.toNat_natCast, List.getD_eq_getElem?_getD, List.getElem?_eq_getElem h]
  rfl
theorem rdOf_lit (L : List ByteArray) (i : Nat) : rdOf ByteArray.empty L (i : Int) = L.getD i ⟨#[]⟩ := by
  unfold rdOf
  rw [Int.toNat_natCast]
  rfl
/-- The row that words are. -/
def rowOf19 (ws : List ByteArray) : Option Row_ := if ws.length = 4 then some ⟨unsR (ws.getD 1 ⟨#[]⟩), ws.getD 2 ⟨#[]⟩, (parseOf (ws.getD 3 ⟨#[]⟩).data.toList).1⟩ else none
def rows19 : List ByteArray → Option (List Row_)
  | [] => some []
  | s :: t => match rowOf19 (splitOn s 32) with
    | none => none
    | some x => (rows19 t).map fun r => x :: r
def endR (text who asset : ByteArray) (day op : Int) (ls : List Row_) (cl : Int) : Out7 := if slipB who asset op ls cl = true ∧ sText who asset day op ls cl = text then (who, asset, day, op, ls, cl, 0) else noneR
def tailR (text who asset : ByteArray) (day op cl : Int) (acc : List Row_) : Option (List Row_) → Out7
  | none => noneR
  | some rs => endR text who asset day op (acc ++ rs) cl
theorem getD_mem_size {L : List ByteArray} {B : Nat} (h : ∀ s ∈ L, s.size ≤ B) (i : Nat) : (L.getD i ⟨#[]⟩).size ≤ B := by
  rw [List.getD_eq_getElem?_getD]
  cases hq : L[i]? with
  | none => exact Nat.zero_le _
  | some s => exact h s (List.mem_of_getElem? hq)
theorem word_sizes {s : ByteArray} (h : s.size ≤ 1000) : ∀ x ∈ splitOn s 32, x.size ≤ 1000 := fun _ hx => Nat.le_trans (splitS_sizes hx) h
theorem rloop (text : ByteArray) (L : List ByteArray) (hL : L.length ≤ 1002) (hn : 3 ≤ L.length) (hs : ∀ s ∈ L, s.size ≤ 1000) (who asset : ByteArray) (day op cl : Int) (hw : who.size ≤ 1000) (ha : asset.size ≤ 1000) (hd : 0 ≤ day ∧ day < 18446744073709551616) (ho : in64 op) (hc : in64 cl) :
    ∀ (m i : Nat) (acc : List Row_), L.length - 1 - i = m → i ≤ L.length - 1 → acc.length ≤ i → rowsIn64 acc → (∀ x ∈ acc, x.f1.size ≤ 1000) →
      Ev (fun k => cambistref19_Parse.l0 k text L (i : Int) who asset day op acc cl) (tailR text who asset day op cl acc (rows19 ((L.take (L.length - 1)).drop i))) := by
  have hwr : wrap64 ((L.length : Int) - 1) = ((L.length - 1 : Nat) : Int) := by
    unfold wrap64
    omega
  have hlen : (L.take (L.length - 1)).length = L.length - 1 := by rw [List.length_take]; omega
  intro m
  induction m with
  | zero =>
    intro i acc hm hi hk hr hf
    obtain rfl : i = L.length - 1 := by omega
    rw [List.drop_of_length_le (by omega)]
    show Ev _ (endR text who asset day op (acc ++ []) cl)
    rw [List.append_nil]
    refine ev_succ ?_
    simp only [cambistref19_Parse.l0]
    rw [hwr]
    have hT := rtext_ev who asset day op acc cl (by omega) (by omega) hd ho hc hr (fun x hx => by have := hf x hx; omega) (by omega)
    have hE : endR text who asset day op acc cl = if slipB who asset op acc cl = true ∧ sText who asset day op acc cl = text then (who, asset, day, op, acc, cl, 0) else noneR := rfl
    rw [hE]
    cases hb : slipB who asset op acc cl with
    | false =>
      rw [hb, if_neg (by decide)] at hT
      exact ev_eq (if_neg (fun e => by cases e.1)).symm (ev_neg (by omega) (ev_call hT (ev_neg (by decide) (ev_some rfl))))
    | true =>
      rw [hb, if_pos rfl] at hT
      refine ev_neg (by omega) (ev_call hT (ev_pos rfl ?_))
      by_cases ht : sText who asset day op acc cl = text
      · exact ev_eq (if_pos ⟨rfl, ht⟩).symm (ev_pos (toList_inj.2 ht) (ev_some rfl))
      · exact ev_eq (if_neg (fun e => ht e.2)).symm (ev_neg (fun e => ht (toList_inj.1 e)) (ev_some rfl))
  | succ m ih =>
    intro i acc hm hi hk hr hf
    have hlt : i < L.length := by omega
    have hlt2 : i < (L.take (L.length - 1)).length := by omega
    have hsi := hs _ (List.getElem_mem hlt)
    have hwd := word_sizes hsi
    rw [List.drop_eq_getElem_cons hlt2, List.getElem_take]
    refine ev_succ ?_
    simp only [cambistref19_Parse.l0]
    rw [hwr, rdOf_nat L i hlt, wrap_sm (show i ≤ L.length by omega) (by omega)]
    refine ev_pos (by omega) (ev_pos (by omega) (ev_pos (by omega) (ev_call (ref_words _ (by omega)) ?_)))
    simp only [rows19, rowOf19]
    generalize splitOn L[i] 32 = ws at *
    by_cases h4 : ws.length = 4
    · rw [if_pos h4]
      refine ev_pos (by omega) (ev_pos (by omega) (ev_call (uns_ev _ ?_) (ev_pos (by omega) (ev_pos (by omega) (ev_call (amount_ev _) (ev_pos (by omega) ?_))))))
      · rw [show rdOf ByteArray.empty ws 1 = ws.getD 1 ⟨#[]⟩ from rdOf_lit ws 1]
        exact Nat.le_trans (getD_mem_size hwd 1) (by decide)
      · rw [show rdOf ByteArray.empty ws 1 = ws.getD 1 ⟨#[]⟩ from rdOf_lit ws 1, show rdOf ByteArray.empty ws 2 = ws.getD 2 ⟨#[]⟩ from rdOf_lit ws 2, show rdOf ByteArray.empty ws 3 = ws.getD 3 ⟨#[]⟩ from rdOf_lit ws 3]
        refine ev_eq ?_ (ih (i + 1) _ (by omega) (by omega) (by rw [List.length_append]; simp only [List.length_cons, List.length_nil]; omega) ?_ ?_)
        · cases rows19 ((L.take (L.length - 1)).drop (i + 1)) with
          | none => rfl
          | some rs =>
            show endR text who asset day op ((acc ++ [_]) ++ rs) cl = endR text who asset day op (acc ++ (_ :: rs)) cl
            rw [List.append_assoc]
            rfl
        · intro x hx
          rcases List.mem_append.1 hx with hx | hx
          · exact hr x hx
          · rw [List.mem_singleton.1 hx]
            exact ⟨unsR_in _, parseOf_in _⟩
        · intro x hx
          rcases List.mem_append.1 hx with hx | hx
          · exact hf x hx
          · rw [List.mem_singleton.1 hx]
            exact getD_mem_size hwd 2
    · rw [if_neg h4]
      exact ev_neg (by omega) (ev_some rfl)
/-- What the document reads of a text's lines. -/
def guessR (text : ByteArray) (L : List ByteArray) : Out7 :=
  if L.length < 3 then noneR
  else if (splitOn (L.getD 0 ⟨#[]⟩) 32).length = 4 ∧ (splitOn (L.getD 1 ⟨#[]⟩) 32).length = 2 ∧ (splitOn (L.getD (L.length - 1) ⟨#[]⟩) 32).length = 2 then
    tailR text ((splitOn (L.getD 0 ⟨#[]⟩) 32).getD 1 ⟨#[]⟩) ((splitOn (L.getD 0 ⟨#[]⟩) 32).getD 2 ⟨#[]⟩) (unsR ((splitOn (L.getD 0 ⟨#[]⟩) 32).getD 3 ⟨#[]⟩)) (parseOf ((splitOn (L.getD 1 ⟨#[]⟩) 32).getD 1 ⟨#[]⟩).data.toList).1
      (parseOf ((splitOn (L.getD (L.length - 1) ⟨#[]⟩) 32).getD 1 ⟨#[]⟩).data.toList).1 [] (rows19 ((L.take (L.length - 1)).drop 2))
  else noneR
theorem guess_ev (text : ByteArray) (ht : text.size ≤ 1000) : Ev (fun k => cambistref19_Parse.f k text) (guessR text (finL (splitOn text 10))) := by
  have hfin : ∀ s ∈ finL (splitOn text 10), s.size ≤ 1000 := fun s hs => by
    unfold finL at hs
    split at hs
    · exact Nat.le_trans (splitS_sizes (List.mem_of_mem_take hs)) ht
    · cases hs
  have hlen : (finL (splitOn text 10)).length ≤ 1002 := by
    have h1 : (splitOn text 10).length ≤ 1002 := by
      rw [length_splitOn]
      have h1 := Lib.count_le text.data.toList [10]
      have h2 := size_len text
      show Lib.count text.data.toList [10] + 1 ≤ _
      omega
    unfold finL
    split
    · rw [List.length_take]
      omega
    · simp
  unfold cambistref19_Parse.f
  refine ev_call (ref_lines text (by omega)) ?_
  generalize finL (splitOn text 10) = L at *
  unfold guessR
  by_cases h3 : L.length < 3
  · rw [if_pos h3]
    exact ev_pos (by omega) (ev_some rfl)
  · rw [if_neg h3]
    have hwr : wrap64 ((L.length : Int) - 1) = ((L.length - 1 : Nat) : Int) := by
      unfold wrap64
      omega
    rw [hwr, show rdOf ByteArray.empty L 0 = L.getD 0 ⟨#[]⟩ from rdOf_lit L 0, show rdOf ByteArray.empty L 1 = L.getD 1 ⟨#[]⟩ from rdOf_lit L 1, rdOf_lit L (L.length - 1)]
    have z0 := getD_mem_size hfin 0
    have z1 := getD_mem_size hfin 1
    have z2 := getD_mem_size hfin (L.length - 1)
    have w0 := word_sizes z0
    have w1 := word_sizes z1
    have w2 := word_sizes z2
    refine ev_neg (by omega) (ev_pos (by omega) (ev_call (ref_words _ (by omega)) (ev_pos (by omega) (ev_call (ref_words _ (by omega)) (ev_pos (by omega) (ev_pos (by omega) (ev_call (ref_words _ (by omega)) ?_)))))))
    generalize splitOn (L.getD 0 ⟨#[]⟩) 32 = hh at *
    generalize splitOn (L.getD 1 ⟨#[]⟩) 32 = oo at *
    generalize splitOn (L.getD (L.length - 1) ⟨#[]⟩) 32 = ee at *
    have bad : Ev (fun k => cambistref19_Parse.j0 k text L hh oo ee true) noneR := by
      refine ev_succ ?_
      simp only [cambistref19_Parse.j0]
      exact ev_pos (by first | rfl | trivial) (ev_some rfl)
    by_cases h4 : hh.length = 4
    · refine ev_pos (by omega) ?_
      by_cases h5 : oo.length = 2
      · refine ev_pos (by omega) ?_
        by_cases h6 : ee.length = 2
        · rw [if_pos ⟨h4, h5, h6⟩]
          have e : ((ee.length : Int) != 2) = false := by rw [h6]; rfl
          rw [e]
          refine ev_succ ?_
          simp only [cambistref19_Parse.j0]
          rw [show rdOf ByteArray.empty hh 1 = hh.getD 1 ⟨#[]⟩ from rdOf_lit hh 1, show rdOf ByteArray.empty hh 2 = hh.getD 2 ⟨#[]⟩ from rdOf_lit hh 2, show rdOf ByteArray.empty hh 3 = hh.getD 3 ⟨#[]⟩ from rdOf_lit hh 3, show rdOf ByteArray.empty oo 1 = oo.getD 1 ⟨#[]⟩ from rdOf_lit oo 1, show rdOf ByteArray.empty ee 1 = ee.getD 1 ⟨#[]⟩ from rdOf_lit ee 1]
          refine ev_neg (by decide) (ev_pos (by omega) (ev_pos (by omega) (ev_pos (by omega) (ev_call (uns_ev _ (Nat.le_trans (getD_mem_size w0 3) (by decide))) (ev_pos (by omega) (ev_call (amount_ev _) (ev_pos (by omega) (ev_call (amount_ev _) ?_))))))))
          exact rloop text L hlen (by omega) hfin _ _ _ _ _ (getD_mem_size w0 1) (getD_mem_size w0 2) (unsR_in _) (parseOf_in _) (parseOf_in _) _ 2 [] rfl (by omega) (by simp) (fun x hx => by cases hx) (fun x hx => by cases hx)
        · rw [if_neg (fun e => h6 e.2.2)]
          have e : ((ee.length : Int) != 2) = true := by
            rw [bne_iff_ne]
            omega
          rw [e]
          exact bad
      · rw [if_neg (fun e => h5 e.2.1)]
        exact ev_neg (by omega) bad
    · rw [if_neg (fun e => h4 e.1)]
      exact ev_neg (by omega) bad
/-- What the document reads, if it is anything, is a statement whose text this is. -/
theorem tailR_is (text who asset : ByteArray) (day op cl : Int) (o : Option (List Row_)) (ho : ∀ rs, o = some rs → rowsIn64 rs) : tailR text who asset day op cl [] o = noneR ∨ ∃ ls, tailR text who asset day op cl [] o = (who, asset, day, op, ls, cl, 0) ∧ slipB who asset op ls cl = true ∧ sText who asset day op ls cl = text ∧ rowsIn64 ls := by
  cases o with
  | none => exact .inl rfl
  | some rs =>
    show endR text who asset day op ([] ++ rs) cl = noneR ∨ _
    rw [List.nil_append]
    by_cases h : slipB who asset op rs cl = true ∧ sText who asset day op rs cl = text
    · refine .inr ⟨rs, ?_, h.1, h.2, ho rs rfl⟩
      show endR text who asset day op ([] ++ rs) cl = _
      rw [List.nil_append]
      exact if_pos h
    · exact .inl (if_neg h)
theorem rows19_in : ∀ (L : List ByteArray) (rs : List Row_), rows19 L = some rs → rowsIn64 rs
  | [], rs, h => by
    obtain rfl := Option.some.inj h
    exact fun x hx => nomatch hx
  | s :: t, rs, h => by
    simp only [rows19] at h
    split at h
    · cases h
    · rename_i x hx
      obtain ⟨r, hr, rfl⟩ := Option.map_eq_some_iff.1 h
      intro y hy
      rcases List.mem_cons.1 hy with rfl | hy
      · unfold rowOf19 at hx
        split at hx
        · obtain rfl := Option.some.inj hx
          exact ⟨unsR_in _, parseOf_in _⟩
        · cases hx
      · exact rows19_in t r hr y hy
theorem rows19_back : ∀ (ls : List Row_), (∀ x ∈ ls, (noC 32 x.f1 ∧ noC 10 x.f1) ∧ (0 ≤ x.f0 ∧ x.f0 < 18446744073709551616) ∧ in64 x.f2) → rows19 (ls.map postL) = some ls
  | [], _ => rfl
  | x :: t, h => by
    have ih := rows19_back t (fun y hy => h y (List.mem_cons_of_mem _ hy))
    obtain ⟨h1, h2, h3⟩ := h x (List.mem_cons_self ..)
    have e : splitOn (postL x) 32 = [kPo, decOf x.f0, x.f1, amtOf x.f2] := split_joinB _ (by simp) (by
      intro w hw
      simp only [List.mem_cons, List.not_mem_nil, or_false] at hw
      rcases hw with rfl | rfl | rfl | rfl
      · exact (lit_noC _ (by simp)).1
      · exact (dec_noC h2.1 h2.2).1
      · exact h1.1
      · exact (amt_noC h3).1)
    have e2 : rowOf19 [kPo, decOf x.f0, x.f1, amtOf x.f2] = some x := by
      unfold rowOf19
      rw [if_pos (show [kPo, decOf x.f0, x.f1, amtOf x.f2].length = 4 from rfl)]
      simp only [List.getD_cons_succ, List.getD_cons_zero]
      have e3 : (amtOf x.f2).data.toList = intText x.f2 := rfl
      rw [unsR_dec h2.1 h2.2, e3, parseOf_text h3]
    rw [List.map_cons]
    simp only [rows19]
    rw [e, e2, ih]
    rfl
theorem guess_back {who asset : ByteArray} {day op : Int} {ls : List Row_} {cl : Int} (h : SOk who asset day op ls cl) (hb : slipB who asset op ls cl = true) :
    guessR (sText who asset day op ls cl) (finL (splitOn (sText who asset day op ls cl) 10)) = (who, asset, day, op, ls, cl, 0) := by
  rw [split_text h, finL_snoc, if_pos rfl]
  have hlen : (textL who asset day op ls cl).length = ls.length + 3 := by unfold textL; simp
  have g0 : (textL who asset day op ls cl).getD 0 ⟨#[]⟩ = jn [kSt, who, asset, decOf day] := rfl
  have g1 : (textL who asset day op ls cl).getD 1 ⟨#[]⟩ = jn [kOp, amtOf op] := rfl
  have g2 : (textL who asset day op ls cl).getD ((textL who asset day op ls cl).length - 1) ⟨#[]⟩ = jn [kCl, amtOf cl] := by
    have e : textL who asset day op ls cl = (jn [kSt, who, asset, decOf day] :: jn [kOp, amtOf op] :: ls.map postL) ++ [jn [kCl, amtOf cl]] := by unfold textL; simp
    rw [e, List.length_append, List.length_singleton, Nat.add_sub_cancel, getD_last]
  have g3 : ((textL who asset day op ls cl).take ((textL who asset day op ls cl).length - 1)).drop 2 = ls.map postL := by
    have e : textL who asset day op ls cl = (jn [kSt, who, asset, decOf day] :: jn [kOp, amtOf op] :: ls.map postL) ++ [jn [kCl, amtOf cl]] := by unfold textL; simp
    rw [e, List.length_append, List.length_singleton, Nat.add_sub_cancel, List.take_left' rfl]
    rfl
  have s0 : splitOn (jn [kSt, who, asset, decOf day]) 32 = [kSt, who, asset, decOf day] := split_joinB _ (by simp) (by
    intro w hw
    simp only [List.mem_cons, List.not_mem_nil, or_false] at hw
    rcases hw with rfl | rfl | rfl | rfl
    · exact (lit_noC _ (by simp)).1
    · exact h.who.1
    · exact h.asset.1
    · exact (dec_noC h.day.1 h.day.2).1)
  have s1 : splitOn (jn [kOp, amtOf op]) 32 = [kOp, amtOf op] := split_joinB _ (by simp) (by
    intro w hw
    simp only [List.mem_cons, List.not_mem_nil, or_false] at hw
    rcases hw with rfl | rfl
    · exact (lit_noC _ (by simp)).1
    · exact (amt_noC h.op).1)
  have s2 : splitOn (jn [kCl, amtOf cl]) 32 = [kCl, amtOf cl] := split_joinB _ (by simp) (by
    intro w hw
    simp only [List.mem_cons, List.not_mem_nil, or_false] at hw
    rcases hw with rfl | rfl
    · exact (lit_noC _ (by simp)).1
    · exact (amt_noC h.cl).1)
  have a1 : (amtOf op).data.toList = intText op := rfl
  have a2 : (amtOf cl).data.toList = intText cl := rfl
  unfold guessR
  rw [if_neg (by omega), g0, g1, g2, g3, s0, s1, s2, if_pos ⟨rfl, rfl, rfl⟩, rows19_back ls h.ls]
  simp only [List.getD_cons_succ, List.getD_cons_zero]
  rw [unsR_dec h.day.1 h.day.2, a1, a2, parseOf_text h.op, parseOf_text h.cl]
  show endR _ who asset day op ([] ++ ls) cl = _
  rw [List.nil_append]
  exact if_pos ⟨hb, rfl⟩
theorem rparse_ev (text : ByteArray) (ht : text.size ≤ 1000) {R : Option Slip6} (hR : Ev (fun k => parseR k text) R) (hRr : ∀ r, R = some r → Read6 text r ∧ ∃ k, slip_Check.f k r.1 r.2.1 r.2.2.1 r.2.2.2.1 r.2.2.2.2.1 r.2.2.2.2.2 = some 0) :
    Ev (fun k => cambistref19_Parse.f k text) (outR R) := by
  refine ev_eq ?_ (guess_ev text ht)
  cases R with
  | some r =>
    obtain ⟨who, asset, day, op, ls, cl⟩ := r
    obtain ⟨h, k, hk⟩ := hRr _ rfl
    have hb := (read_ok h (by omega) hk).1
    have hok := slip_ok hb h.day h.op h.cl h.rows
    have he : text = sText who asset day op ls cl := h.text
    rw [he]
    exact guess_back hok hb
  | none =>
    have hne : ∀ {who asset : ByteArray} {day op : Int} {ls : List Row_} {cl : Int}, slipB who asset op ls cl = true → sText who asset day op ls cl = text → (0 ≤ day ∧ day < 18446744073709551616) → in64 op → in64 cl → rowsIn64 ls → False := by
      intro who asset day op ls cl hb he hd ho hc hr
      have hok := slip_ok hb hd ho hc hr
      obtain ⟨h1, h2, h3, _, h5⟩ := slip_get hb
      obtain ⟨K, hK⟩ := chk_ev who asset day op ls cl (by have := (who_get h1).2; omega) (by have := (up_get h2).2; omega) ho hc (fun x hx => (hr x hx).2) (fun x hx => by have := (part_get (h5 x hx).1).2; omega) (by omega)
      obtain ⟨K2, hK2⟩ := hR
      have e1 := hK2 (K + K2) (by omega)
      have e2 := hK (K + K2) (by omega)
      simp only at e1 e2
      rw [← he, parse_back _ hok, e2, hb] at e1
      cases Option.some.inj e1
    show guessR text (finL (splitOn text 10)) = noneR
    unfold guessR
    split
    · rfl
    · split
      · rcases tailR_is text _ _ _ _ _ (rows19 (((finL (splitOn text 10)).take ((finL (splitOn text 10)).length - 1)).drop 2)) (fun rs h => rows19_in _ rs h) with h | ⟨ls, _, hb, he, hr⟩
        · exact h
        · exact (hne hb he (unsR_in _) (parseOf_in _) (parseOf_in _) hr).elim
      · rfl
end Go.Proofs.YtnngbnhbmgdkoaaGreatDoor.E
namespace Go.Proofs.YtnngbnhbmgdkoaaGreatDoor.E
open Go.RowKit Go.Proofs.YtnngbnhbmgdkoaaGreatDoor.P Go.Proofs.YtnngbnhbmgdkoaaGreatDoorW.PrintWords Go.Proofs.YtnngbnhbmgdkoaaGreatDoorW.PrintLast
theorem same_loop (who asset : ByteArray) (day op : Int) (ls : List Row_) (cl : Int) (hl : ls.length ≤ 1000000) : ∀ (m i : Nat), ls.length - i = m → i ≤ ls.length → Ev (fun k => cambistref19_Same.l0 k (i : Int) who asset day op ls cl who asset day op ls cl) true := by
  intro m
  induction m with
  | zero =>
    intro i hm hi
    obtain rfl : i = ls.length := by omega
    refine ev_succ ?_
    simp only [cambistref19_Same.l0]
    exact ev_neg (by omega) (ev_some rfl)
  | succ m ih =>
    intro i hm hi
    refine ev_succ ?_
    simp only [cambistref19_Same.l0]
    rw [wrap_sm hi hl]
    exact ev_pos (by omega) (ev_pos (by omega) (ev_pos (by omega) (ev_neg (by simp) (ih (i + 1) (by omega) (by omega)))))
theorem same_ev (who asset : ByteArray) (day op : Int) (ls : List Row_) (cl : Int) (hl : ls.length ≤ 1000000) : Ev (fun k => cambistref19_Same.f k who asset day op ls cl who asset day op ls cl) true := by
  unfold cambistref19_Same.f
  refine ev_pos rfl (ev_pos rfl (ev_pos rfl (ev_pos rfl (ev_pos rfl ?_))))
  have e : ((ls.length : Int) != (ls.length : Int)) = false := by simp
  rw [e]
  refine ev_succ ?_
  simp only [cambistref19_Same.j0]
  exact ev_neg (by decide) (same_loop who asset day op ls cl hl _ 0 rfl (by omega))
end Go.Proofs.YtnngbnhbmgdkoaaGreatDoor.E
namespace Go.Proofs.YtnngbnhbmgdkoaaGreatDoor.E
open Go.RowKit Go.Proofs.YtnngbnhbmgdkoaaGreatDoor.P Go.Proofs.YtnngbnhbmgdkoaaGreatDoorW.PrintWords Go.Proofs.YtnngbnhbmgdkoaaGreatDoorW.PrintLast
def smallR (x : Row_) : Bool := decide (x.f1.size ≤ 100)
def smallB (who asset : ByteArray) (ls : List Row_) : Bool := decide (ls.length ≤ 100) && decide (who.size ≤ 100) && decide (asset.size ≤ 100) && ls.all smallR
theorem small_get {who asset : ByteArray} {ls : List Row_} (h : smallB who asset ls = true) : ls.length ≤ 100 ∧ who.size ≤ 100 ∧ asset.size ≤ 100 ∧ ∀ x ∈ ls, x.f1.size ≤ 100 := by
  unfold smallB smallR at h
  simp only [Bool.and_eq_true, decide_eq_true_eq, List.all_eq_true] at h
  exact ⟨h.1.1.1, h.1.1.2, h.1.2, h.2⟩
theorem small_loop (who asset : ByteArray) (day op : Int) (ls : List Row_) (cl : Int) (hl : ls.length ≤ 1000000) : ∀ (m i : Nat), ls.length - i = m → i ≤ ls.length → Ev (fun k => cambistlaw19_small.l0 k (i : Int) who asset day op ls cl) ((ls.drop i).all smallR) := by
  intro m
  induction m with
  | zero =>
    intro i hm hi
    obtain rfl : i = ls.length := by omega
    refine ev_succ ?_
    simp only [cambistlaw19_small.l0]
    exact ev_neg (by omega) (ev_some (by simp))
  | succ m ih =>
    intro i hm hi
    have hlt : i < ls.length := by omega
    have hr : smallR ls[i] = decide (ls[i].f1.size ≤ 100) := rfl
    refine ev_succ ?_
    simp only [cambistlaw19_small.l0]
    rw [rd_row ls i hlt, wrap_sm hi hl, List.drop_eq_getElem_cons hlt, List.all_cons, hr]
    refine ev_pos (by omega) (ev_pos (by omega) ?_)
    by_cases h : ls[i].f1.size ≤ 100
    · rw [decide_eq_true h, Bool.true_and]
      exact ev_neg (by omega) (ih (i + 1) (by omega) (by omega))
    · rw [decide_eq_false h, Bool.false_and]
      exact ev_pos (by omega) (ev_some rfl)
theorem small_ev (who asset : ByteArray) (day op : Int) (ls : List Row_) (cl : Int) : Ev (fun k => cambistlaw19_small.f k who asset day op ls cl) (smallB who asset ls) := by
  have hB : smallB who asset ls = (decide (ls.length ≤ 100) && decide (who.size ≤ 100) && decide (asset.size ≤ 100) && ls.all smallR) := rfl
  have bad : smallB who asset ls = false → Ev (fun k => cambistlaw19_small.j0 k true who asset day op ls cl) (smallB who asset ls) := fun hb => by
    refine ev_succ ?_
    simp only [cambistlaw19_small.j0]
    exact ev_pos (by first | rfl | trivial) (ev_some (by rw [hb]))
  unfold cambistlaw19_small.f
  by_cases h1 : ls.length ≤ 100
  · refine ev_neg (by omega) ?_
    by_cases h2 : who.size ≤ 100
    · refine ev_neg (by omega) ?_
      by_cases h3 : asset.size ≤ 100
      · rw [decide_eq_false (by omega : ¬ (asset.size : Int) > 100)]
        refine ev_succ ?_
        simp only [cambistlaw19_small.j0]
        refine ev_neg (by decide) (ev_eq ?_ (small_loop who asset day op ls cl (by omega) _ 0 rfl (by omega)))
        rw [hB, decide_eq_true h1, decide_eq_true h2, decide_eq_true h3, List.drop_zero]
        rfl
      · rw [decide_eq_true (by omega : (asset.size : Int) > 100)]
        exact bad (by rw [hB, decide_eq_false h3]; simp)
    · exact ev_pos (by omega) (bad (by rw [hB, decide_eq_false h2]; simp))
  · exact ev_pos (by omega) (bad (by rw [hB, decide_eq_false h1]; simp))
theorem texts_u64 {a : Int} (h : (Lit.int .u64 a).wf = true) : 0 ≤ a ∧ a < 18446744073709551616 := by
  simp [Lit.wf, IntKind.min, IntKind.max, IntKind.signed, IntKind.bits] at h
  omega
theorem parse_to {text : ByteArray} {R : Option Slip6} (ht : text.size ≤ 900000) (h : Ev (fun k => parseR k text) R) : Ev (fun k => slip_Parse.f k text) (outR R) := by
  obtain ⟨K, hK⟩ := h
  refine ⟨K, fun k hk => ?_⟩
  have h9 : parseR k text = some R := hK k hk
  show slip_Parse.f k text = _
  unfold slip_Parse.f
  rw [if_pos ht, h9]
  rfl
end Go.Proofs.YtnngbnhbmgdkoaaGreatDoor.E
namespace Go.Proofs.YtnngbnhbmgdkoaaGreatDoor.Pure
open Go.RowKit Go.Proofs.YtnngbnhbmgdkoaaGreatDoor.P Go.Proofs.YtnngbnhbmgdkoaaGreatDoor.E Go.Proofs.YtnngbnhbmgdkoaaGreatDoorW.PrintWords Go.Proofs.YtnngbnhbmgdkoaaGreatDoorW.PrintLast
theorem out_rows {text : ByteArray} (ht : text.size ≤ 1000) {R : Option Slip6} (h : ∀ r, R = some r → Read6 text r ∧ ∃ k, slip_Check.f k r.1 r.2.1 r.2.2.1 r.2.2.2.1 r.2.2.2.2.1 r.2.2.2.2.2 = some 0) : (outR R).2.2.2.2.1.length ≤ 1000000 := by
  cases R with
  | none => exact Nat.zero_le _
  | some r =>
    obtain ⟨who, asset, day, op, ls, cl⟩ := r
    obtain ⟨h1, k, hk⟩ := h _ rfl
    have := (slip_get (read_ok h1 (by omega) hk).1).2.2.1
    show ls.length ≤ _
    omega
theorem SlipTexts (who asset : ByteArray) (day op : Int) (ls : List Row_) (cl : Int) (hg : goodSlip who asset day op ls cl) (text : ByteArray) (_ht : text.size ≤ lim) : ∃ k, cambistlaw19_SlipTexts.f k who asset day op ls cl text = some true := by
  obtain ⟨g1, g2, g3, g4, ⟨g5, _⟩, g6⟩ := hg
  have hd := texts_u64 g3
  have ho := i64_range g4
  have hcl := i64_range g6
  have hrows : rowsIn64 ls := fun x hx => ⟨texts_u64 (g5 x hx).1, i64_range (g5 x hx).2.2⟩
  refine Ev.rounds (g := fun k => cambistlaw19_SlipTexts.f k who asset day op ls cl text) ?_
  unfold cambistlaw19_SlipTexts.f
  have bad : Ev (fun k => cambistlaw19_SlipTexts.j0 k text true true who asset day op ls cl) true := by
    refine ev_succ ?_
    simp only [cambistlaw19_SlipTexts.j0]
    exact ev_pos trivial (ev_some rfl)
  refine ev_opt (show cambistlaw19_awake.f = some true from rfl) (ev_call (small_ev who asset day op ls cl) ?_)
  cases hf : smallB who asset ls with
  | false => exact ev_neg (by decide) bad
  | true =>
    obtain ⟨f1, f2, f3, f4⟩ := small_get hf
    refine ev_pos rfl ?_
    by_cases ht : text.size ≤ 1000
    · rw [decide_eq_false (by omega : ¬ (text.size : Int) > 1000)]
      obtain ⟨R, hR, hRr⟩ := parse_ev text (by omega)
      have hsz : ∀ x ∈ ls, x.f1.size ≤ 140737488351232 := fun x hx => by have := f4 x hx; omega
      refine ev_succ ?_
      simp only [cambistlaw19_SlipTexts.j0]
      refine ev_neg (by decide) (ev_call (text_ev who asset day op ls cl (by omega) (by omega) hd ho hcl hrows hsz (by omega)) (ev_call (rtext_ev who asset day op ls cl (by omega) (by omega) hd ho hcl hrows hsz (by omega)) (ev_call (parse_to (by omega) hR) (ev_call (rparse_ev text ht hR hRr) (ev_call (same_ev _ _ _ _ _ _ (out_rows ht hRr)) ?_)))))
      refine ev_pos (by first | rfl | trivial) (ev_pos (by first | rfl | trivial) (ev_pos (by first | rfl | trivial) (ev_pos (by first | rfl | trivial) (ev_pos (by first | rfl | trivial) (ev_call (chk_ev who asset day op ls cl (by omega) (by omega) ho hcl (fun x hx => (hrows x hx).2) hsz (by omega)) (ev_call (rchk_ev who asset day op ls cl (by omega) (by omega) ho hcl (fun x hx => (hrows x hx).2) hsz (by omega)) (ev_some ?_)))))))
      simp
    · rw [decide_eq_true (by omega : (text.size : Int) > 1000)]
      exact bad
end Go.Proofs.YtnngbnhbmgdkoaaGreatDoor.Pure
