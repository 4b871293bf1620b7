/- The document's answers of layer 2 to which texts are names. Keys: what label.Key answers, in plain words; and the document's. Numbers in sixteens: their digits, and what follows of their order. The document's answers of layer 2 to numbers in sixteens. The document's numbers of sixteens. How far an amount is from 0, as the document reckons it. The document's texts of amounts. The document's sum of two amounts. The document's sum: taken in turns, it is the sum, or the error. The document's amounts of texts. -/
import Derived.Test.YtjlifcbddednaaaGreatDoorNames
import Derived.Test.YtjlifcbddednaaaGreatDoorPx9
import Derived.Test.YtjlifcbddednaaaGreatDoorPx10
import Derived.Test.YtjlifcbddednaaaGreatDoorPx10
import Derived.Test.YtjlifcbddednaaaGreatDoorPx10
import Derived.Test.YtjlifcbddednaaaGreatDoorPx10
import Derived.Test.YtjlifcbddednaaaGreatDoorCut
import Derived.Test.YtjlifcbddednaaaGreatDoorPx5
import Derived.Test.YtjlifcbddednaaaGreatDoorPx12
import Derived.Test.YtjlifcbddednaaaGreatDoorDigits
import Derived.Test.YtjlifcbddednaaaGreatDoorNumber
import Derived.Test.YtjlifcbddednaaaGreatDoorEv
import Derived.Test.YtjlifcbddednaaaGreatDoorMini
import Derived.Test.YtjlifcbddednaaaGreatDoorPx7
import Derived.Test.YtjlifcbddednaaaGreatDoorPx7
import Derived.Test.YtjlifcbddednaaaGreatDoorNumText
import Derived.Laws.BitsLemmas
import Derived.Laws.Bits64
import Derived.IntWalk
import Derived.Test.YtjlifcbddednaaaGreatDoorPx7
import Derived.Test.YtjlifcbddednaaaGreatDoorArith
import Derived.Test.YtjlifcbddednaaaGreatDoorPx7
import Derived.Test.YtjlifcbddednaaaGreatDoorPx10
import Derived.Test.YtjlifcbddednaaaGreatDoorSumPure
import Derived.Test.YtjlifcbddednaaaGreatDoorPx11
import Derived.Test.YtjlifcbddednaaaGreatDoorPx8
namespace Go.Proofs.YtjlifcbddednaaaGreatDoor.E
open Go.RowKit Go.Proofs.YtjlifcbddednaaaGreatDoor.P Go.Proofs.YtjlifcbddednaaaGreatDoorW.PrintWords Go.Proofs.YtjlifcbddednaaaGreatDoorW.PrintLast

theorem within_some (c : UInt8) (a b : Nat) : cambistref02_within.f (c.toNat : Int) (a : Int) (b : Int) = some (decide (a ≤ c.toNat) && decide (c.toNat ≤ b)) := by
  unfold cambistref02_within.f
  by_cases h : a ≤ c.toNat
  · rw [if_pos (by omega), decide_eq_true h, Bool.true_and]
    congr 1
    rw [Bool.eq_iff_iff]; simp
  · rw [if_neg (by omega), decide_eq_false h, Bool.false_and]
theorem within_low (c : UInt8) : cambistref02_within.f (c.toNat : Int) 97 122 = some (isLow c) := within_some c 97 122
theorem within_up (c : UInt8) : cambistref02_within.f (c.toNat : Int) 65 90 = some (isUp c) := within_some c 65 90
theorem within_dig (c : UInt8) : cambistref02_within.f (c.toNat : Int) 48 57 = some (isDig c) := within_some c 48 57
theorem drop_at {l : List UInt8} {i : Nat} (h : i < l.length) : l.drop i = l[i] :: l.drop (i + 1) := List.drop_eq_getElem_cons h

theorem asset_loop (s : ByteArray) (hs : s.size ≤ 140737488351232) : ∀ (m i : Nat), s.size - i = m → i ≤ s.size →
    Ev (fun k => cambistref02_Asset.l0 k s (i : Int)) ((s.data.toList.drop i).all isUp && (decide (1 ≤ s.size) && decide ((s.size : Int) ≤ 6))) := by
  intro m
  induction m with
  | zero =>
    intro i hm hi
    refine ev_succ ?_
    simp only [cambistref02_Asset.l0]
    refine ev_neg (by omega) ?_
    rw [List.drop_of_length_le (by rw [size_len]; omega)]
    by_cases h1 : 1 ≤ s.size
    · refine ev_pos (by omega) (ev_some ?_)
      rw [decide_eq_true h1]; rfl
    · refine ev_neg (by omega) (ev_some ?_)
      rw [decide_eq_false h1]; rfl
  | succ m ih =>
    intro i hm hi
    have hlt : i < s.data.toList.length := by rw [size_len]; omega
    refine ev_succ ?_
    simp only [cambistref02_Asset.l0]
    refine ev_pos (by omega) (ev_pos (by omega) ?_)
    rw [bt_get s i hlt, drop_at hlt, List.all_cons]
    refine ev_opt (within_up _) ?_
    cases isUp s.data.toList[i] with
    | true =>
      refine ev_pos rfl ?_
      rw [wrap_next hi hs]
      exact ih (i + 1) (by omega) (by omega)
    | false => exact ev_neg (by decide) (ev_some rfl)
theorem ref_asset (s : ByteArray) (hs : s.size ≤ 140737488351232) : Ev (fun k => cambistref02_Asset.f k s) (isPart isUp 6 s) := asset_loop s hs s.size 0 (by omega) (by omega)

theorem part_loop (s : ByteArray) (most : Int) (hs : s.size ≤ 140737488351232) : ∀ (m i : Nat), s.size - i = m → i ≤ s.size →
    Ev (fun k => cambistref02_part.l0 k s most (i : Int)) ((s.data.toList.drop i).all isSign && (decide (1 ≤ s.size) && decide ((s.size : Int) ≤ most))) := by
  intro m
  induction m with
  | zero =>
    intro i hm hi
    refine ev_succ ?_
    simp only [cambistref02_part.l0]
    refine ev_neg (by omega) ?_
    rw [List.drop_of_length_le (by rw [size_len]; omega)]
    by_cases h1 : 1 ≤ s.size
    · refine ev_pos (by omega) (ev_some ?_)
      rw [decide_eq_true h1]; rfl
    · refine ev_neg (by omega) (ev_some ?_)
      rw [decide_eq_false h1]; rfl
  | succ m ih =>
    intro i hm hi
    have hlt : i < s.data.toList.length := by rw [size_len]; omega
    have next := ih (i + 1) (by omega) (by omega)
    rw [← wrap_next hi hs] at next
    refine ev_succ ?_
    simp only [cambistref02_part.l0]
    refine ev_pos (by omega) (ev_pos (by omega) ?_)
    rw [bt_get s i hlt, drop_at hlt, List.all_cons]
    generalize hc : s.data.toList[i] = c
    refine ev_opt (within_low _) ?_
    cases h1 : isLow c with
    | true =>
      rw [show isSign c = true by unfold isSign; rw [h1]; rfl]
      exact ev_pos rfl next
    | false =>
      refine ev_neg (by decide) (ev_opt (within_up _) ?_)
      cases h2 : isUp c with
      | true =>
        rw [show isSign c = true by unfold isSign; rw [h1, h2]; rfl]
        exact ev_pos rfl next
      | false =>
        refine ev_neg (by decide) (ev_opt (within_dig _) ?_)
        cases h3 : isDig c with
        | true =>
          rw [show isSign c = true by unfold isSign; rw [h1, h2, h3]; rfl]
          exact ev_pos rfl next
        | false =>
          refine ev_neg (by decide) ?_
          by_cases h4 : c.toNat = 45
          · rw [show isSign c = true by unfold isSign; rw [h1, h2, h3, decide_eq_true h4]; rfl]
            exact ev_pos (by omega) next
          · rw [show isSign c = false by unfold isSign; rw [h1, h2, h3, decide_eq_false h4]; rfl]
            exact ev_neg (by omega) (ev_some rfl)
theorem ref_part (s : ByteArray) (most : Int) (hs : s.size ≤ 140737488351232) : Ev (fun k => cambistref02_part.f k s most) (isPart isSign most s) := part_loop s most hs s.size 0 (by omega) (by omega)
theorem ref_word (s : ByteArray) (hs : s.size ≤ 140737488351232) : Ev (fun k => cambistref02_Word.f k s) (isPart isSign 12 s) := ev_call (ref_part s 12 hs) (ev_some rfl)

theorem who_loop (s : ByteArray) (hs : s.size ≤ 140737488351232) : ∀ (m i : Nat), s.size - i = m → i ≤ s.size → 1 ≤ i →
    Ev (fun k => cambistref02_Who.l0 k s (i : Int)) ((s.data.toList.drop i).all fun c => isLow c || isDig c) := by
  intro m
  induction m with
  | zero =>
    intro i hm hi _
    refine ev_succ ?_
    simp only [cambistref02_Who.l0]
    refine ev_neg (by omega) ?_
    rw [List.drop_of_length_le (by rw [size_len]; omega)]
    exact ev_some rfl
  | succ m ih =>
    intro i hm hi h1
    have hlt : i < s.data.toList.length := by rw [size_len]; omega
    have next := ih (i + 1) (by omega) (by omega) (by omega)
    rw [← wrap_next hi hs] at next
    refine ev_succ ?_
    simp only [cambistref02_Who.l0]
    refine ev_pos (by omega) (ev_pos (by omega) ?_)
    rw [bt_get s i hlt, drop_at hlt, List.all_cons]
    refine ev_opt (within_low _) (ev_opt (within_dig _) ?_)
    cases isLow s.data.toList[i] with
    | true => exact ev_pos rfl next
    | false =>
      refine ev_neg (by decide) (ev_neg (by omega) ?_)
      cases isDig s.data.toList[i] with
      | true => exact ev_pos rfl next
      | false => exact ev_neg (by decide) (ev_some rfl)
theorem ref_who (s : ByteArray) (hs : s.size ≤ 140737488351232) : Ev (fun k => cambistref02_Who.f k s) (isWho s) := by
  unfold cambistref02_Who.f
  cases hl : s.data.toList with
  | nil =>
    have h0 : s.size = 0 := by rw [← size_len, hl]; rfl
    have e : isWho s = false := by unfold isWho; rw [hl]
    rw [e]
    refine ev_pos (by omega) (ev_succ ?_)
    simp only [cambistref02_Who.j0]
    exact ev_pos trivial (ev_some rfl)
  | cons c t =>
    have hn : s.size = t.length + 1 := by rw [← size_len, hl]; rfl
    have e4 : isWho s = (isLow c && (t.all fun c => isLow c || isDig c) && decide (t.length + 1 ≤ 8)) := by
      unfold isWho
      rw [hl]
    rw [e4]
    refine ev_neg (by omega) (ev_succ ?_)
    simp only [cambistref02_Who.j0]
    by_cases h8 : t.length + 1 ≤ 8
    · rw [decide_eq_false (show ¬ (s.size : Int) > 8 by omega), decide_eq_true h8, Bool.and_true]
      refine ev_neg (by decide) (ev_succ ?_)
      simp only [cambistref02_Who.l0]
      have hlt : 0 < s.data.toList.length := by rw [size_len]; omega
      have hb := bt_get s 0 hlt
      have hc : s.data.toList[0] = c := by simp [hl]
      rw [hc] at hb
      have next := who_loop s hs (s.size - 1) 1 (by omega) (by omega) (by omega)
      rw [show s.data.toList.drop 1 = t by rw [hl]; rfl] at next
      replace next : Ev (fun k => cambistref02_Who.l0 k s (wrap64 (0 + 1))) (t.all fun c => isLow c || isDig c) := by
        rw [wrap_in (x := 0 + 1) (by decide) (by decide)]
        exact next
      refine ev_pos (by omega) (ev_pos (by omega) ?_)
      rw [show bt s 0 = (c.toNat : Int) from hb]
      refine ev_opt (within_low _) (ev_opt (within_dig _) ?_)
      cases isLow c with
      | true => rw [Bool.true_and]; exact ev_pos rfl next
      | false => exact ev_neg (by decide) (ev_pos trivial (ev_some rfl))
    · rw [decide_eq_true (show (s.size : Int) > 8 by omega), decide_eq_false h8, Bool.and_false]
      exact ev_pos rfl (ev_some rfl)
end Go.Proofs.YtjlifcbddednaaaGreatDoor.E
namespace Go.Proofs.YtjlifcbddednaaaGreatDoor.E
open Go.RowKit Go.Proofs.YtjlifcbddednaaaGreatDoor.P Go.Proofs.YtjlifcbddednaaaGreatDoorW.PrintWords Go.Proofs.YtjlifcbddednaaaGreatDoorW.PrintLast

/-- Parts, each behind a bar. -/
def barred (l : List ByteArray) : List UInt8 := l.flatMap fun p => 124 :: p.data.toList
def keyData (c : UInt8) (l : List ByteArray) : List UInt8 := c :: barred l
def okKey (a : Int) (l : List ByteArray) : Bool := decide (97 ≤ a) && decide (a ≤ 122) && decide (1 ≤ l.length) && decide (l.length ≤ 4) && l.all (isPart isSign 16)
def spaceByte (a : Int) : UInt8 := UInt8.ofNat a.toNat
def keyOf (a : Int) (l : List ByteArray) : ByteArray × Int := if okKey a l = true then (⟨(keyData (spaceByte a) l).toArray⟩, 0) else (⟨#[]⟩, 20)
theorem keyOf_yes {a : Int} {l : List ByteArray} (h : okKey a l = true) : keyOf a l = (⟨(keyData (spaceByte a) l).toArray⟩, 0) := if_pos h
theorem keyOf_no {a : Int} {l : List ByteArray} (h : okKey a l = false) : keyOf a l = (⟨#[]⟩, 20) := if_neg (by rw [h]; simp)
theorem barred_cons (p : ByteArray) (l : List ByteArray) : barred (p :: l) = 124 :: (p.data.toList ++ barred l) := by simp [barred]
theorem barred_append (l m : List ByteArray) : barred (l ++ m) = barred l ++ barred m := by simp [barred]
theorem barred_join (l : List ByteArray) (h : l ≠ []) : barred l = 124 :: Lib.join (l.map (·.data.toList)) [124] := by
  induction l with
  | nil => exact absurd rfl h
  | cons p l ih =>
    rw [barred_cons]
    cases l with
    | nil => simp [barred, Lib.join, List.intercalate]
    | cons q l =>
      rw [ih (by simp)]
      simp [Lib.join, List.intercalate]
theorem okKey_parts {a : Int} {l : List ByteArray} (h : okKey a l = true) : 97 ≤ a ∧ a ≤ 122 ∧ 1 ≤ l.length ∧ l.length ≤ 4 ∧ ∀ p ∈ l, isPart isSign 16 p = true := by
  simp only [okKey, Bool.and_eq_true, decide_eq_true_eq, List.all_eq_true] at h
  exact ⟨h.1.1.1.1, h.1.1.1.2, h.1.1.2, h.1.2, h.2⟩
theorem isPart_size {p : UInt8 → Bool} {m : Int} {s : ByteArray} (h : isPart p m s = true) : 1 ≤ s.size ∧ (s.size : Int) ≤ m := by
  simp only [isPart, Bool.and_eq_true, decide_eq_true_eq] at h
  exact h.2
theorem isPart_all {p : UInt8 → Bool} {m : Int} {s : ByteArray} (h : isPart p m s = true) : s.data.toList.all p = true := by
  simp only [isPart, Bool.and_eq_true, decide_eq_true_eq] at h
  exact h.1
theorem barred_length {l : List ByteArray} (h : ∀ p ∈ l, isPart isSign 16 p = true) : (barred l).length ≤ l.length * 17 := by
  induction l with
  | nil => simp [barred]
  | cons p l ih =>
    have h1 := isPart_size (h p (List.mem_cons_self ..))
    have h2 := ih (fun q hq => h q (List.mem_cons_of_mem _ hq))
    rw [barred_cons]
    simp only [List.length_cons, List.length_append, size_len]
    omega
theorem strOf_one (a : Int) : (strOfNums [a]).data.toList = [spaceByte a] := rfl
theorem rdOf_get (l : List ByteArray) (i : Nat) (h : i < l.length) : rdOf ByteArray.empty l (i : Int) = l[i] := by
  unfold rdOf
  rw [Int.toNat_natCast, List.getD_eq_getElem?_getD, List.getElem?_eq_getElem h]
  rfl
theorem wrap_small {i n : Nat} (h : i ≤ n) (hn : n ≤ 1000000) : wrap64 ((i : Int) + 1) = ((i + 1 : Nat) : Int) := wrap_next h (by omega)

theorem key_loop (a : Int) (l : List ByteArray) (hl : ∀ p ∈ l, p.size ≤ 140737488351232) (h1 : 1 ≤ l.length) (h4 : l.length ≤ 4) : ∀ (m i : Nat), l.length - i = m → i ≤ l.length → (∀ p ∈ l.take i, isPart isSign 16 p = true) →
    Ev (fun k => label_Key.l0 k a l l (l.length : Int) (i : Int)) (if (l.drop i).all (isPart isSign 16) = true then (⟨(keyData (spaceByte a) l).toArray⟩, 0) else (⟨#[]⟩, 20)) := by
  intro m
  induction m with
  | zero =>
    intro i hm hi hp
    obtain rfl : i = l.length := by omega
    rw [List.take_length] at hp
    rw [List.drop_length, if_pos (show ([] : List ByteArray).all (isPart isSign 16) = true from rfl)]
    have hb := barred_length hp
    have hne : l ≠ [] := by intro e; rw [e] at h1; simp at h1
    have hj : strings_Join.f l ⟨#[124]⟩ = some (joinB l ⟨#[124]⟩) := by
      unfold strings_Join.f
      have h2 := barred_join l hne
      have h3 := congrArg List.length h2
      rw [List.length_cons] at h3
      exact if_pos ⟨by omega, by show (Lib.join (l.map (·.data.toList)) [124]).length ≤ _; omega⟩
    have hjs : (joinB l ⟨#[124]⟩).size + 1 = (barred l).length := by
      rw [barred_join l hne, List.length_cons, ← size_len]
      rfl
    refine ev_succ ?_
    simp only [label_Key.l0]
    refine ev_neg (by omega) (ev_opt rfl (ev_pos (by rw [← size_len, strOf_one]; simp) (ev_opt hj (ev_pos ?_ (ev_some ?_)))))
    · rw [ByteArray.size_append, ← size_len (strOfNums [a]), strOf_one]
      show 1 + 1 + (joinB l ⟨#[124]⟩).size ≤ _
      omega
    · congr 1
      apply text_ext
      rw [ByteArray.data_append, ByteArray.data_append, Array.toList_append, Array.toList_append, strOf_one]
      show [spaceByte a] ++ [124] ++ Lib.join (l.map (·.data.toList)) [124] = spaceByte a :: barred l
      rw [barred_join l hne]
      rfl
  | succ m ih =>
    intro i hm hi hp
    have hlt : i < l.length := by omega
    refine ev_succ ?_
    simp only [label_Key.l0]
    refine ev_pos (by omega) (ev_pos (by omega) (ev_pos (by omega) ?_))
    rw [rdOf_get l i hlt, List.drop_eq_getElem_cons hlt, List.all_cons]
    refine ev_opt (of_sign l[i] 16 (hl _ (List.getElem_mem hlt))) ?_
    cases hq : isPart isSign 16 l[i] with
    | true =>
      refine ev_pos rfl ?_
      rw [wrap_small hi (by omega)]
      exact ih (i + 1) (by omega) (by omega) (fun p hpm => by
        rw [List.take_succ_eq_append_getElem hlt] at hpm
        rcases List.mem_append.1 hpm with h | h
        · exact hp p h
        · rw [List.mem_singleton.1 h]; exact hq)
    | false => exact ev_neg (by decide) (ev_some rfl)
theorem key_some (a : Int) (l : List ByteArray) (hl : ∀ p ∈ l, p.size ≤ 140737488351232) : Ev (fun k => label_Key.f k a l) (keyOf a l) := by
  unfold label_Key.f
  have bad : okKey a l = false → Ev (fun k => label_Key.j0 k a l true) (keyOf a l) := by
    intro h
    unfold keyOf
    rw [h]
    refine ev_succ ?_
    simp only [label_Key.j0]
    exact ev_pos trivial (ev_some rfl)
  by_cases h1 : a < 97
  · exact ev_pos h1 (bad (by unfold okKey; rw [decide_eq_false (by omega : ¬ 97 ≤ a)]; rfl))
  refine ev_neg h1 ?_
  by_cases h2 : a > 122
  · exact ev_pos h2 (bad (by unfold okKey; rw [decide_eq_false (by omega : ¬ a ≤ 122)]; simp))
  refine ev_neg h2 ?_
  by_cases h3 : (l.length : Int) < 1
  · exact ev_pos h3 (bad (by unfold okKey; rw [decide_eq_false (by omega : ¬ 1 ≤ l.length)]; simp))
  refine ev_neg h3 ?_
  by_cases h4 : (l.length : Int) > 4
  · rw [decide_eq_true h4]
    exact bad (by unfold okKey; rw [decide_eq_false (by omega : ¬ l.length ≤ 4)]; simp)
  · rw [decide_eq_false h4]
    refine ev_succ ?_
    simp only [label_Key.j0]
    refine ev_neg (by decide) (ev_eq ?_ (key_loop a l hl (by omega) (by omega) l.length 0 (by omega) (by omega) (by simp)))
    unfold keyOf okKey
    rw [decide_eq_true (by omega : 97 ≤ a), decide_eq_true (by omega : a ≤ 122), decide_eq_true (by omega : 1 ≤ l.length), decide_eq_true (by omega : l.length ≤ 4)]
    rfl

theorem ref_key_loop (a : Int) (l : List ByteArray) (hl : ∀ p ∈ l, p.size ≤ 140737488351232) (h4 : l.length ≤ 4) : ∀ (m i : Nat), l.length - i = m → i ≤ l.length → (∀ p ∈ l.take i, isPart isSign 16 p = true) →
    Ev (fun k => cambistref02_Key.l0 k l ⟨(keyData (spaceByte a) (l.take i)).toArray⟩ (i : Int)) (if (l.drop i).all (isPart isSign 16) = true then (⟨(keyData (spaceByte a) l).toArray⟩, 0) else (⟨#[]⟩, 20)) := by
  intro m
  induction m with
  | zero =>
    intro i hm hi hp
    obtain rfl : i = l.length := by omega
    rw [List.take_length, List.drop_length, if_pos (show ([] : List ByteArray).all (isPart isSign 16) = true from rfl)]
    refine ev_succ ?_
    simp only [cambistref02_Key.l0]
    exact ev_neg (by omega) (ev_some rfl)
  | succ m ih =>
    intro i hm hi hp
    have hlt : i < l.length := by omega
    have hb := barred_length hp
    rw [List.length_take, Nat.min_eq_left hi] at hb
    have hsz : (⟨(keyData (spaceByte a) (l.take i)).toArray⟩ : ByteArray).size = (barred (l.take i)).length + 1 := by
      rw [← size_len]; simp [keyData]
    refine ev_succ ?_
    simp only [cambistref02_Key.l0]
    refine ev_pos (by omega) (ev_pos (by omega) ?_)
    rw [rdOf_get l i hlt, List.drop_eq_getElem_cons hlt, List.all_cons]
    refine ev_call (ref_part l[i] 16 (hl _ (List.getElem_mem hlt))) ?_
    cases hq : isPart isSign 16 l[i] with
    | true =>
      have hq2 := isPart_size hq
      refine ev_pos rfl (ev_pos (by omega) (ev_pos ?_ ?_))
      · rw [ByteArray.size_append, hsz]
        show (barred (l.take i)).length + 1 + 1 + l[i].size ≤ _
        omega
      · rw [wrap_small hi (by omega)]
        have next := ih (i + 1) (by omega) (by omega) (fun p hpm => by
          rw [List.take_succ_eq_append_getElem hlt] at hpm
          rcases List.mem_append.1 hpm with h | h
          · exact hp p h
          · rw [List.mem_singleton.1 h]; exact hq)
        have e : (⟨(keyData (spaceByte a) (l.take (i + 1))).toArray⟩ : ByteArray) = ⟨(keyData (spaceByte a) (l.take i)).toArray⟩ ++ ⟨#[124]⟩ ++ l[i] := by
          apply text_ext
          have eb : barred (l.take (i + 1)) = barred (l.take i) ++ 124 :: l[i].data.toList := by
            rw [List.take_succ_eq_append_getElem hlt, barred_append]
            simp [barred]
          simp [keyData, eb]
        rw [e] at next
        exact next
    | false => exact ev_neg (by decide) (ev_some rfl)
theorem ref_key (a : Int) (l : List ByteArray) (hl : ∀ p ∈ l, p.size ≤ 140737488351232) : Ev (fun k => cambistref02_Key.f k a l) (keyOf a l) := by
  unfold cambistref02_Key.f
  have bad : okKey a l = false → Ev (fun k => cambistref02_Key.j0 k a l true) (keyOf a l) := by
    intro h
    unfold keyOf
    rw [h]
    refine ev_succ ?_
    simp only [cambistref02_Key.j0]
    exact ev_pos trivial (ev_some rfl)
  by_cases h1 : a < 97
  · exact ev_pos h1 (bad (by unfold okKey; rw [decide_eq_false (by omega : ¬ 97 ≤ a)]; rfl))
  refine ev_neg h1 ?_
  by_cases h2 : a > 122
  · exact ev_pos h2 (bad (by unfold okKey; rw [decide_eq_false (by omega : ¬ a ≤ 122)]; simp))
  refine ev_neg h2 ?_
  by_cases h3 : (l.length : Int) < 1
  · exact ev_pos h3 (bad (by unfold okKey; rw [decide_eq_false (by omega : ¬ 1 ≤ l.length)]; simp))
  refine ev_neg h3 ?_
  by_cases h4 : (l.length : Int) > 4
  · rw [decide_eq_true h4]
    exact bad (by unfold okKey; rw [decide_eq_false (by omega : ¬ l.length ≤ 4)]; simp)
  · rw [decide_eq_false h4]
    refine ev_succ ?_
    simp only [cambistref02_Key.j0]
    refine ev_neg (by decide) (ev_eq ?_ (ref_key_loop a l hl (by omega) l.length 0 (by omega) (by omega) (by simp)))
    unfold keyOf okKey
    rw [decide_eq_true (by omega : 97 ≤ a), decide_eq_true (by omega : a ≤ 122), decide_eq_true (by omega : 1 ≤ l.length), decide_eq_true (by omega : l.length ≤ 4)]
    rfl
end Go.Proofs.YtjlifcbddednaaaGreatDoor.E
namespace Go.Proofs.YtjlifcbddednaaaGreatDoor.E
open Go.RowKit Go.Proofs.YtjlifcbddednaaaGreatDoorW.PrintWords Go.Proofs.YtjlifcbddednaaaGreatDoorW.PrintLast

def digitsRec : Nat → Nat → List UInt8
  | 0, _ => []
  | k + 1, n => (hexSign (n / 16 ^ k % 16)).toUInt8 :: digitsRec k n
theorem digitsOf_data (n : Nat) : (digitsOf n).data.toList = digitsRec 16 n := rfl
theorem digitsRec_length (k n : Nat) : (digitsRec k n).length = k := by
  induction k with
  | zero => rfl
  | succ k ih => simp [digitsRec, ih]
theorem digitsOf_size (n : Nat) : (digitsOf n).size = 16 := by
  rw [← size_len, digitsOf_data, digitsRec_length]

theorem sign_facts : ∀ a : Fin 16, hexPlace (hexSign a.val).toUInt8 = (a.val : Int) := by decide
theorem place_sign (d : Nat) (h : d < 16) : hexPlace (hexSign d).toUInt8 = (d : Int) := sign_facts ⟨d, h⟩
theorem sign_lt_facts : ∀ a b : Fin 16, decide ((hexSign a.val).toUInt8 < (hexSign b.val).toUInt8) = decide (a.val < b.val) ∧ ((hexSign a.val).toUInt8 == (hexSign b.val).toUInt8) = decide (a.val = b.val) := by decide
theorem sign_lt (a b : Nat) (ha : a < 16) (hb : b < 16) : decide ((hexSign a).toUInt8 < (hexSign b).toUInt8) = decide (a < b) := (sign_lt_facts ⟨a, ha⟩ ⟨b, hb⟩).1
theorem sign_eq (a b : Nat) (ha : a < 16) (hb : b < 16) : ((hexSign a).toUInt8 == (hexSign b).toUInt8) = decide (a = b) := (sign_lt_facts ⟨a, ha⟩ ⟨b, hb⟩).2

theorem fold_digits (k n : Nat) : ∀ acc, (digitsRec k n).foldl (fun n c => n * 16 + (hexPlace c).toNat) acc = acc * 16 ^ k + n % 16 ^ k := by
  induction k with
  | zero => intro acc; simp [digitsRec, Nat.mod_one]
  | succ k ih =>
    intro acc
    rw [digitsRec, List.foldl_cons, ih, place_sign _ (Nat.mod_lt _ (by decide)), Int.toNat_natCast, Nat.mod_pow_succ, Nat.pow_succ, Nat.add_mul, Nat.mul_assoc, Nat.mul_comm 16 (16 ^ k), Nat.mul_comm (n / 16 ^ k % 16)]
    omega
theorem hexAll_digits (k n : Nat) : hexAll (digitsRec k n) = true := by
  induction k with
  | zero => rfl
  | succ k ih =>
    show (decide (0 ≤ hexPlace _) && hexAll (digitsRec k n)) = true
    rw [ih, place_sign _ (Nat.mod_lt _ (by decide)), decide_eq_true (Int.natCast_nonneg _)]
    rfl
theorem numFold_digits (n : Nat) (h : n < 18446744073709551616) : numFold (digitsOf n).data.toList = n := by
  rw [digitsOf_data]
  unfold numFold
  rw [fold_digits, Nat.zero_mul, Nat.zero_add]
  exact Nat.mod_eq_of_lt h
theorem number_digits (n : Nat) (h : n < 18446744073709551616) : label_Number.f (digitsOf n) = some ((n : Int), 0) := by
  unfold label_Number.f
  rw [if_pos (digitsOf_size n), if_pos (by rw [digitsOf_data]; exact hexAll_digits 16 n), numFold_digits n h]
theorem digitsOf_inj {a b : Nat} (ha : a < 18446744073709551616) (hb : b < 18446744073709551616) (h : digitsOf a = digitsOf b) : a = b := by
  rw [← numFold_digits a ha, ← numFold_digits b hb, h]

theorem less_digits (k a b : Nat) : Op.bytesLess (digitsRec k a) (digitsRec k b) = decide (a % 16 ^ k < b % 16 ^ k) := by
  induction k with
  | zero => simp [digitsRec, Op.bytesLess, Nat.mod_one]
  | succ k ih =>
    have ha : a / 16 ^ k % 16 < 16 := Nat.mod_lt _ (by decide)
    have hb : b / 16 ^ k % 16 < 16 := Nat.mod_lt _ (by decide)
    simp only [digitsRec, Op.bytesLess]
    rw [sign_lt _ _ ha hb, sign_eq _ _ ha hb, ih, Nat.mod_pow_succ, Nat.mod_pow_succ]
    have h1 : a % 16 ^ k < 16 ^ k := Nat.mod_lt _ (Nat.pow_pos (by decide))
    have h2 : b % 16 ^ k < 16 ^ k := Nat.mod_lt _ (Nat.pow_pos (by decide))
    generalize a / 16 ^ k % 16 = x at *
    generalize b / 16 ^ k % 16 = y at *
    generalize a % 16 ^ k = u at *
    generalize b % 16 ^ k = v at *
    generalize 16 ^ k = p at *
    rw [Bool.eq_iff_iff]
    simp only [Bool.or_eq_true, Bool.and_eq_true, decide_eq_true_eq]
    constructor
    · rintro (h | ⟨rfl, h⟩)
      · have : p * (x + 1) ≤ p * y := Nat.mul_le_mul_left p h
        rw [Nat.mul_add] at this
        omega
      · omega
    · intro h
      rcases Nat.lt_trichotomy x y with hxy | rfl | hxy
      · exact .inl hxy
      · exact .inr ⟨rfl, by omega⟩
      · have : p * (y + 1) ≤ p * x := Nat.mul_le_mul_left p hxy
        rw [Nat.mul_add] at this
        omega
theorem digitsOf_less {a b : Nat} (ha : a < 18446744073709551616) (hb : b < 18446744073709551616) : Op.bytesLess (digitsOf a).toList (digitsOf b).toList = decide (a < b) := by
  rw [toList_data, toList_data, digitsOf_data, digitsOf_data, less_digits]
  have e : (16 : Nat) ^ 16 = 18446744073709551616 := by decide
  rw [e, Nat.mod_eq_of_lt ha, Nat.mod_eq_of_lt hb]
theorem u64_range {a : Int} (h : (Lit.int .u64 a).wf = true) : ∃ n : Nat, a = n ∧ n < 18446744073709551616 := by
  have : 0 ≤ a ∧ a < 18446744073709551616 := by
    simp [Lit.wf, IntKind.min, IntKind.max, IntKind.signed, IntKind.bits] at h
    omega
  exact ⟨a.toNat, by omega, by omega⟩
theorem digits_some (n : Nat) (h : n < 18446744073709551616) : label_Digits.f (n : Int) = some (digitsOf n) := by
  unfold label_Digits.f
  rw [if_pos (by omega), Int.toNat_natCast]
end Go.Proofs.YtjlifcbddednaaaGreatDoor.E
namespace Go.Proofs.YtjlifcbddednaaaGreatDoor.E
open Go.RowKit Go.Proofs.YtjlifcbddednaaaGreatDoor.P Go.Proofs.YtjlifcbddednaaaGreatDoorW.PrintWords Go.Proofs.YtjlifcbddednaaaGreatDoorW.PrintLast Go.Proofs.YtjlifcbddednaaaGreatDoorW.PrintMore

theorem signs_at : ∀ d : Fin 16, strOfNums [bt (⟨#[48, 49, 50, 51, 52, 53, 54, 55, 56, 57, 97, 98, 99, 100, 101, 102]⟩ : ByteArray) (d.val : Int)] = ⟨#[(hexSign d.val).toUInt8]⟩ := by decide +kernel
theorem strOf_sign (d : Nat) (h : d < 16) : strOfNums [bt (⟨#[48, 49, 50, 51, 52, 53, 54, 55, 56, 57, 97, 98, 99, 100, 101, 102]⟩ : ByteArray) (d : Int)] = ⟨#[(hexSign d).toUInt8]⟩ := signs_at ⟨d, h⟩
theorem shift_digit (n j : Nat) (hn : n < 18446744073709551616) (hj : j < 16) : Go.bits .and .u64 (shr .u64 (n : Int) (IntKind.u64.wrap (wrap64 (4 * (j : Int))))) 15 = ((n / 16 ^ j % 16 : Nat) : Int) := by
  rw [wrap_in (by omega) (by omega), IntWalk.u64_in _ (by omega)]
  unfold shr
  rw [show (4 * (j : Int)).toNat = 4 * j by omega, Nat.min_eq_left (by simp [IntKind.bits]; omega)]
  exact bits_digit n j hn
theorem ref_digits_loop (n : Nat) (hn : n < 18446744073709551616) : ∀ (j : Nat) (out : ByteArray), j ≤ 16 → out.size + j = 16 → Ev (fun k => cambistref02_Digits.l0 k (n : Int) out ((j : Int) - 1)) (out ++ ⟨(digitsRec j n).toArray⟩) := by
  intro j
  induction j with
  | zero =>
    intro out _ _
    refine ev_succ ?_
    simp only [cambistref02_Digits.l0]
    refine ev_neg (by omega) (ev_some ?_)
    apply text_ext
    simp [digitsRec]
  | succ j ih =>
    intro out hj hs
    have hd : n / 16 ^ j % 16 < 16 := Nat.mod_lt _ (by decide)
    refine ev_succ ?_
    simp only [cambistref02_Digits.l0]
    rw [show ((j + 1 : Nat) : Int) - 1 = (j : Int) by omega, shift_digit n j hn (by omega)]
    refine ev_pos (by omega) (ev_pos ?_ (ev_pos (by omega) (ev_pos (by omega) (ev_opt rfl ?_))))
    · rw [wrap_in (by omega) (by omega), IntWalk.u64_in _ (by omega)]; omega
    rw [strOf_sign _ hd]
    refine ev_pos ?_ ?_
    · show out.size + 1 ≤ _
      omega
    · rw [wrap_in (by omega) (by omega)]
      refine ev_eq ?_ (ih (out ++ ⟨#[(hexSign (n / 16 ^ j % 16)).toUInt8]⟩) (by omega) (by rw [ByteArray.size_append]; show out.size + 1 + j = 16; omega))
      apply text_ext
      simp [digitsRec]
theorem ref_digits (n : Nat) (hn : n < 18446744073709551616) : Ev (fun k => cambistref02_Digits.f k (n : Int)) (digitsOf n) := by
  refine ev_eq ?_ (ref_digits_loop n hn 16 ⟨#[]⟩ (Nat.le_refl _) rfl)
  apply text_ext
  simp [digitsOf_data]
end Go.Proofs.YtjlifcbddednaaaGreatDoor.E
namespace Go.Proofs.YtjlifcbddednaaaGreatDoor.E
open Go.RowKit Go.Proofs.YtjlifcbddednaaaGreatDoor.P Go.Proofs.YtjlifcbddednaaaGreatDoorW.PrintWords Go.Proofs.YtjlifcbddednaaaGreatDoorW.PrintLast Go.Proofs.YtjlifcbddednaaaGreatDoorW.PrintMore
/-- What the document's Number adds of a byte. -/
def nib (c : UInt8) : Nat := if 48 ≤ c.toNat ∧ c.toNat ≤ 57 then c.toNat - 48 else ((c.toNat + 159) % 256 + 10) % 256 % 16
theorem nib_facts : ∀ n : Fin 256, nib (UInt8.ofNat n.val) < 16 ∧ (if 0 ≤ hexPlace (UInt8.ofNat n.val) then hexPlace (UInt8.ofNat n.val) = (nib (UInt8.ofNat n.val) : Int) ∧ (hexSign (nib (UInt8.ofNat n.val))).toUInt8 = UInt8.ofNat n.val else (hexSign (nib (UInt8.ofNat n.val))).toUInt8 ≠ UInt8.ofNat n.val) := by decide +kernel
theorem nib_fact (c : UInt8) : nib c < 16 ∧ (if 0 ≤ hexPlace c then hexPlace c = (nib c : Int) ∧ (hexSign (nib c)).toUInt8 = c else (hexSign (nib c)).toUInt8 ≠ c) :=
  all_u8 (p := fun c => nib c < 16 ∧ (if 0 ≤ hexPlace c then hexPlace c = (nib c : Int) ∧ (hexSign (nib c)).toUInt8 = c else (hexSign (nib c)).toUInt8 ≠ c)) nib_facts c
def nibFold (l : List UInt8) (acc : Nat) : Nat := l.foldl (fun n c => n * 16 + nib c) acc
theorem nibFold_split (l : List UInt8) : ∀ acc, nibFold l acc = acc * 16 ^ l.length + nibFold l 0 ∧ nibFold l 0 < 16 ^ l.length := by
  induction l with
  | nil => intro acc; simp [nibFold]
  | cons c l ih =>
    intro acc
    have h := (nib_fact c).1
    have e1 : ∀ a, nibFold (c :: l) a = nibFold l (a * 16 + nib c) := fun a => rfl
    rw [e1, e1, (ih (acc * 16 + nib c)).1, (ih (0 * 16 + nib c)).1, List.length_cons, Nat.pow_succ]
    have h2 := (ih 0).2
    generalize nibFold l 0 = u at *
    generalize 16 ^ l.length = p at *
    have q1 : (acc * 16 + nib c) * p = acc * (p * 16) + nib c * p := by rw [Nat.add_mul, Nat.mul_assoc, Nat.mul_comm 16 p]
    have q2 : (0 * 16 + nib c) * p = nib c * p := by rw [Nat.zero_mul, Nat.zero_add]
    have q3 : nib c * p ≤ 15 * p := Nat.mul_le_mul_right p (by omega)
    rw [q1, q2]
    constructor
    · omega
    · omega
theorem digitsRec_add (k a n : Nat) (h : n < 16 ^ k) : digitsRec k (a * 16 ^ k + n) = digitsRec k n := by
  have : ∀ j, j ≤ k → digitsRec j (a * 16 ^ k + n) = digitsRec j n := by
    intro j
    induction j with
    | zero => intro _; rfl
    | succ j ih =>
      intro hj
      simp only [digitsRec]
      rw [ih (by omega)]
      congr 3
      obtain ⟨d, rfl⟩ : ∃ d, k = j + 1 + d := ⟨k - (j + 1), by omega⟩
      have e : a * 16 ^ (j + 1 + d) + n = n + 16 ^ j * (16 * (a * 16 ^ d)) := by
        rw [Nat.pow_add, Nat.pow_succ]
        rw [Nat.add_comm]
        congr 1
        generalize 16 ^ j = x
        generalize 16 ^ d = y
        rw [Nat.mul_comm a, Nat.mul_assoc, Nat.mul_assoc, Nat.mul_comm y a]
      rw [e, Nat.add_mul_div_left _ _ (Nat.pow_pos (by decide)), Nat.add_mul_mod_self_left]
  exact this k (Nat.le_refl _)
theorem digits_nibs (l : List UInt8) : digitsRec l.length (nibFold l 0) = l.map fun c => (hexSign (nib c)).toUInt8 := by
  induction l with
  | nil => rfl
  | cons c l ih =>
    have h := (nib_fact c).1
    have e1 : nibFold (c :: l) 0 = nibFold l (0 * 16 + nib c) := rfl
    obtain ⟨h1, h2⟩ := nibFold_split l (0 * 16 + nib c)
    rw [List.length_cons, digitsRec, e1, h1, digitsRec_add _ _ _ h2, ih, List.map_cons]
    congr 3
    rw [Nat.add_comm, Nat.add_mul_div_right _ _ (Nat.pow_pos (by decide)), Nat.div_eq_of_lt h2]
    omega
theorem nibs_fold (l : List UInt8) (h : hexAll l = true) : nibFold l 0 = numFold l := by
  have : ∀ (l : List UInt8) acc, hexAll l = true → l.foldl (fun n c => n * 16 + nib c) acc = l.foldl (fun n c => n * 16 + (hexPlace c).toNat) acc := by
    intro l
    induction l with
    | nil => intro acc _; rfl
    | cons c l ih =>
      intro acc h
      have h2 : decide (0 ≤ hexPlace c) = true ∧ hexAll l = true := by
        have : (decide (0 ≤ hexPlace c) && hexAll l) = true := h
        simpa using this
      have h3 := (nib_fact c).2
      rw [if_pos (of_decide_eq_true h2.1)] at h3
      rw [List.foldl_cons, List.foldl_cons, ih _ h2.2, h3.1]
      rfl
  exact this l 0 h
theorem nibs_back (l : List UInt8) : (l.map fun c => (hexSign (nib c)).toUInt8) = l ↔ hexAll l = true := by
  induction l with
  | nil => simp [hexAll]
  | cons c l ih =>
    have e : hexAll (c :: l) = (decide (0 ≤ hexPlace c) && hexAll l) := rfl
    have h3 := (nib_fact c).2
    rw [List.map_cons, List.cons.injEq, ih, e, Bool.and_eq_true, decide_eq_true_eq]
    by_cases h : 0 ≤ hexPlace c
    · rw [if_pos h] at h3
      simp [h3.2, h]
    · rw [if_neg h] at h3
      simp [h3, h]

theorem byte_sub (c : UInt8) : ((c.toNat : Int) - 97) % 256 = (((c.toNat + 159) % 256 : Nat) : Int) := by
  have := c.toNat_lt
  omega
theorem and_15 (n : Nat) (h : n < 256) : Go.bits .and .u64 (n : Int) 15 = ((n % 16 : Nat) : Int) := by
  rw [show (15 : Int) = ((15 : Nat) : Int) from rfl, u64_and_nat _ _ (by omega) (by decide), show 15 = 2 ^ 4 - 1 from rfl, Nat.and_two_pow_sub_one_eq_mod]
theorem step_next (a : Nat) (v : Nat) (hv : v < 16) (j : Nat) (hj : j ≤ 15) (ha : a < 16 ^ j) : IntKind.u64.wrap ((IntKind.u64.wrap ((a : Int) * 16)) + (v : Int)) = ((a * 16 + v : Nat) : Int) := by
  have hp : (16 : Nat) ^ j ≤ 16 ^ 15 := Nat.pow_le_pow_right (by decide) hj
  have hp15 : (16 : Nat) ^ 15 = 1152921504606846976 := by decide
  rw [hp15] at hp
  rw [IntWalk.u64_in ((a : Int) * 16) (by omega), IntWalk.u64_in _ (by omega)]
  omega
theorem ref_number_loop (s : ByteArray) (hs : s.size = 16) : ∀ (m i : Nat), 16 - i = m → i ≤ 16 →
    Ev (fun k => cambistref02_Number.l0 k s ((nibFold (s.data.toList.take i) 0 : Nat) : Int) (i : Int)) (if hexAll s.data.toList = true then ((numFold s.data.toList : Nat) : Int) else 0, if hexAll s.data.toList = true then (0 : Int) else 20) := by
  intro m
  induction m with
  | zero =>
    intro i hm hi
    obtain rfl : i = 16 := by omega
    have ht : s.data.toList.take 16 = s.data.toList := List.take_of_length_le (by rw [size_len, hs]; exact Nat.le_refl _)
    have hlen : s.data.toList.length = 16 := by rw [size_len, hs]
    have hlt := (nibFold_split s.data.toList 0).2
    rw [hlen] at hlt
    have e16 : (16 : Nat) ^ 16 = 18446744073709551616 := by decide
    rw [e16] at hlt
    have hback := digits_nibs s.data.toList
    rw [hlen] at hback
    rw [ht]
    refine ev_succ ?_
    simp only [cambistref02_Number.l0]
    refine ev_neg (by omega) (ev_call (ref_digits _ hlt) ?_)
    rw [toList_data, toList_data, digitsOf_data, hback]
    by_cases h : hexAll s.data.toList = true
    · rw [if_pos h, if_pos h]
      refine ev_pos ((nibs_back _).2 h) (ev_some ?_)
      rw [nibs_fold _ h]
    · rw [if_neg h, if_neg h]
      exact ev_neg (fun e => h ((nibs_back _).1 e)) (ev_some rfl)
  | succ m ih =>
    intro i hm hi
    have hlt : i < s.data.toList.length := by rw [size_len]; omega
    have next := ih (i + 1) (by omega) (by omega)
    have hc := (nib_fact s.data.toList[i]).1
    have hf : nibFold (s.data.toList.take (i + 1)) 0 = nibFold (s.data.toList.take i) 0 * 16 + nib s.data.toList[i] := by
      rw [List.take_succ_eq_append_getElem hlt]
      unfold nibFold
      rw [List.foldl_append]
      rfl
    have hb := (nibFold_split (s.data.toList.take i) 0).2
    rw [List.length_take, Nat.min_eq_left (by omega)] at hb
    rw [hf, ← step_next _ _ hc i (by omega) hb, ← wrap_next (n := 16) hi (by decide)] at next
    refine ev_succ ?_
    simp only [cambistref02_Number.l0]
    refine ev_pos (by omega) (ev_pos (by omega) (ev_pos (by omega) ?_))
    rw [bt_get s i hlt]
    generalize s.data.toList[i] = c at *
    have hcl := c.toNat_lt
    by_cases h1 : 48 ≤ c.toNat
    · refine ev_pos (by omega) ?_
      by_cases h2 : c.toNat ≤ 57
      · have e : ((c.toNat : Int) - 48) % 256 = (nib c : Int) := by
          unfold nib
          rw [if_pos ⟨h1, h2⟩]
          omega
        rw [e]
        exact ev_pos (by omega) next
      · have e : Go.bits .and .u64 (((((c.toNat : Int) - 97) % 256) + 10) % 256) 15 = (nib c : Int) := by
          rw [byte_sub, show ((((c.toNat + 159) % 256 : Nat) : Int) + 10) % 256 = ((((c.toNat + 159) % 256 + 10) % 256 : Nat) : Int) by omega, and_15 _ (by omega)]
          unfold nib
          rw [if_neg (by omega)]
        rw [e]
        exact ev_neg (by omega) next
    · have e : Go.bits .and .u64 (((((c.toNat : Int) - 97) % 256) + 10) % 256) 15 = (nib c : Int) := by
        rw [byte_sub, show ((((c.toNat + 159) % 256 : Nat) : Int) + 10) % 256 = ((((c.toNat + 159) % 256 + 10) % 256 : Nat) : Int) by omega, and_15 _ (by omega)]
        unfold nib
        rw [if_neg (by omega)]
      rw [e]
      exact ev_neg (by omega) next
theorem number_some (s : ByteArray) : label_Number.f s = some (if s.size = 16 ∧ hexAll s.data.toList = true then ((numFold s.data.toList : Nat) : Int) else 0, if s.size = 16 ∧ hexAll s.data.toList = true then (0 : Int) else 20) := by
  unfold label_Number.f
  by_cases h1 : s.size = 16
  · by_cases h2 : hexAll s.data.toList = true
    · rw [if_pos h1, if_pos h2, if_pos ⟨h1, h2⟩, if_pos ⟨h1, h2⟩]
    · rw [if_pos h1, if_neg h2, if_neg (fun h => h2 h.2), if_neg (fun h => h2 h.2)]
  · rw [if_neg h1, if_neg (fun h => h1 h.1), if_neg (fun h => h1 h.1)]
theorem ref_number (s : ByteArray) : Ev (fun k => cambistref02_Number.f k s) (if s.size = 16 ∧ hexAll s.data.toList = true then ((numFold s.data.toList : Nat) : Int) else 0, if s.size = 16 ∧ hexAll s.data.toList = true then (0 : Int) else 20) := by
  unfold cambistref02_Number.f
  by_cases h1 : s.size = 16
  · have := ref_number_loop s h1 16 0 (by omega) (by omega)
    simp only [h1, true_and]
    exact ev_pos (by omega) this
  · rw [if_neg (fun h => h1 h.1), if_neg (fun h => h1 h.1)]
    exact ev_neg (by omega) (ev_some rfl)
end Go.Proofs.YtjlifcbddednaaaGreatDoor.E
namespace Go.Proofs.YtjlifcbddednaaaGreatDoor.E
open Go.RowKit Go.Proofs.YtjlifcbddednaaaGreatDoor.P Go.Proofs.YtjlifcbddednaaaGreatDoorW.PrintWords Go.Proofs.YtjlifcbddednaaaGreatDoorW.PrintLast
theorem size_some {a : Int} (h : in64 a) : cambistref01_size.f a = some (a.natAbs : Int) := by
  have h1 := h.1
  have h2 := h.2
  unfold cambistref01_size.f
  by_cases hn : a < 0
  · rw [if_pos hn, wrap_in (x := a + 1) (by omega) (by omega), wrap_in (x := -(a + 1)) (by omega) (by omega), IntKind.wrap_u64, IntKind.wrap_u64]
    congr 1
    omega
  · rw [if_neg hn, IntKind.wrap_u64]
    congr 1
    omega
theorem natAbs_le {a : Int} (h : in64 a) : a.natAbs ≤ 9223372036854775808 := by
  have h1 := h.1
  have h2 := h.2
  omega
end Go.Proofs.YtjlifcbddednaaaGreatDoor.E
namespace Go.Proofs.YtjlifcbddednaaaGreatDoor.E
open Go.RowKit Go.Proofs.YtjlifcbddednaaaGreatDoor.P Go.Proofs.YtjlifcbddednaaaGreatDoorW.PrintWords Go.Proofs.YtjlifcbddednaaaGreatDoorW.PrintLast Go.Proofs.YtjlifcbddednaaaGreatDoorW.PrintMore
theorem tens_at : ∀ d : Fin 10, strOfNums [((48 + d.val : Nat) : Int)] = ⟨#[UInt8.ofNat (48 + d.val)]⟩ := by decide +kernel
theorem ten_sign (n : Nat) (_h : n < 18446744073709551616) : strOfNums [(IntKind.u64.wrap (48 + (Int.tmod (n : Int) 10))) % 256] = ⟨#[UInt8.ofNat (48 + n % 10)]⟩ := by
  have e : (IntKind.u64.wrap (48 + (Int.tmod (n : Int) 10))) % 256 = ((48 + n % 10 : Nat) : Int) := by
    rw [Int.tmod_eq_emod_of_nonneg (Int.natCast_nonneg _), IntKind.wrap_u64]
    omega
  rw [e]
  exact tens_at ⟨n % 10, Nat.mod_lt _ (by decide)⟩
theorem ten_rest (n : Nat) (h : n < 18446744073709551616) : IntKind.u64.wrap (Int.tdiv (n : Int) 10) = ((n / 10 : Nat) : Int) := by
  rw [Int.tdiv_eq_ediv_of_nonneg (Int.natCast_nonneg _), IntKind.wrap_u64]
  omega
def front (k n : Nat) (out : List UInt8) : List UInt8 := (if n = 0 then [] else decRec k n) ++ out
theorem front_next (k n : Nat) (out : List UInt8) (_hn : n < 10 ^ (k + 1)) (h0 : 0 < n) : front k (n / 10) (UInt8.ofNat (48 + n % 10) :: out) = front (k + 1) n out := by
  unfold front
  rw [if_neg (show ¬ n = 0 by omega), decRec]
  by_cases h : n < 10
  · rw [if_pos (by omega), if_pos h, Nat.mod_eq_of_lt h]
    rfl
  · rw [if_neg (by omega), if_neg h, List.append_assoc]
    rfl
theorem ref_text_loop (x0 : Int) : ∀ (k n : Nat) (out : ByteArray), n < 10 ^ k → n < 18446744073709551616 → out.size + k ≤ 100 → Ev (fun j => cambistref01_Text.l0 j x0 (n : Int) out) ⟨((if x0 < 0 then [45] else []) ++ front k n out.data.toList).toArray⟩ := by
  intro k
  have stop : ∀ (k : Nat) (out : ByteArray), out.size ≤ 100 → Ev (fun j => cambistref01_Text.l0 j x0 (0 : Int) out) ⟨((if x0 < 0 then [45] else []) ++ front k 0 out.data.toList).toArray⟩ := by
    intro k out hs
    refine ev_succ ?_
    simp only [cambistref01_Text.l0]
    refine ev_neg (by omega) ?_
    by_cases hx : x0 < 0
    · refine ev_pos hx (ev_pos (by omega) (ev_some ?_))
      apply text_ext
      rw [if_pos hx]
      simp [front]
    · refine ev_neg hx (ev_some ?_)
      apply text_ext
      rw [if_neg hx]
      simp [front]
  induction k with
  | zero =>
    intro n out hn _ hs
    obtain rfl : n = 0 := by simpa using hn
    exact stop 0 out (by omega)
  | succ k ih =>
    intro n out hn h64 hs
    rcases Nat.eq_zero_or_pos n with h0 | h0
    · subst h0
      exact stop _ out (by omega)
    · refine ev_succ ?_
      simp only [cambistref01_Text.l0]
      refine ev_pos (by omega) (ev_opt rfl ?_)
      rw [ten_sign n h64, ten_rest n h64]
      refine ev_pos (by show 1 + out.size ≤ _; omega) ?_
      refine ev_eq ?_ (ih (n / 10) (⟨#[UInt8.ofNat (48 + n % 10)]⟩ ++ out) (by rw [Nat.pow_succ] at hn; omega) (by omega) (by rw [ByteArray.size_append]; show 1 + out.size + k ≤ 100; omega))
      congr 3
      rw [← front_next k n _ hn h0]
      simp
theorem ref_text {a : Int} (h : in64 a) : Ev (fun k => cambistref01_Text.f k a) ⟨(intText a).toArray⟩ := by
  have h1 := h.1
  have h2 := h.2
  have hm := natAbs_le h
  unfold cambistref01_Text.f
  refine ev_opt (size_some h) ?_
  rw [ten_sign _ (by omega), ten_rest _ (by omega)]
  refine ev_eq ?_ (ref_text_loop a 19 (a.natAbs / 10) ⟨#[UInt8.ofNat (48 + a.natAbs % 10)]⟩ (by omega) (by omega) (by show 1 + 19 ≤ 100; decide))
  congr 2
  have e : front 19 (a.natAbs / 10) [UInt8.ofNat (48 + a.natAbs % 10)] = decText a.natAbs := by
    unfold decText
    rw [decRec]
    unfold front
    by_cases h10 : a.natAbs < 10
    · rw [if_pos (by omega), if_pos h10, Nat.mod_eq_of_lt h10]
      rfl
    · rw [if_neg (by omega), if_neg h10]
  show (if a < 0 then [45] else []) ++ front 19 (a.natAbs / 10) [UInt8.ofNat (48 + a.natAbs % 10)] = intText a
  rw [e]
  unfold intText
  by_cases hn : a < 0
  · rw [if_pos hn, if_pos hn]
    rfl
  · rw [if_neg hn, if_neg hn, show a.natAbs = a.toNat by omega]
    rfl
theorem text_some {a : Int} (h : in64 a) : coin_Text.f a = some ⟨(intText a).toArray⟩ := if_pos h
end Go.Proofs.YtjlifcbddednaaaGreatDoor.E
namespace Go.Proofs.YtjlifcbddednaaaGreatDoor.E
open Go.RowKit Go.Proofs.YtjlifcbddednaaaGreatDoor.P Go.Proofs.YtjlifcbddednaaaGreatDoorW.PrintWords Go.Proofs.YtjlifcbddednaaaGreatDoorW.PrintLast
theorem ref_add {a b : Int} (ha : in64 a) (hb : in64 b) : cambistref01_Add.f a b = some (outOf (a + b)) := by
  have h1 := ha.1
  have h2 := ha.2
  have h3 := hb.1
  have h4 := hb.2
  unfold cambistref01_Add.f
  by_cases hp : b > 0
  · rw [if_pos hp, wrap_in (x := 9223372036854775807 - b) (by omega) (by omega)]
    by_cases h : in64 (a + b)
    · rw [if_neg (by unfold in64 at h; omega), if_neg (by omega), outOf_in h, wrap64_in h]
    · rw [if_pos (by unfold in64 at h; omega), outOf_over h]
  · rw [if_neg hp]
    by_cases hn : b < 0
    · rw [if_pos hn, wrap_in (x := -9223372036854775808 - b) (by omega) (by omega)]
      by_cases h : in64 (a + b)
      · rw [if_neg (by unfold in64 at h; omega), outOf_in h, wrap64_in h]
      · rw [if_pos (by unfold in64 at h; omega), outOf_over h]
    · have h : in64 (a + b) := by unfold in64; omega
      rw [if_neg hn, outOf_in h, wrap64_in h]
end Go.Proofs.YtjlifcbddednaaaGreatDoor.E
namespace Go.Proofs.YtjlifcbddednaaaGreatDoor.E
open Go.RowKit Go.Proofs.YtjlifcbddednaaaGreatDoor.P Go.Proofs.YtjlifcbddednaaaGreatDoorW.PrintWords Go.Proofs.YtjlifcbddednaaaGreatDoorW.PrintLast
def Ups (l : List Int) : Prop := ∀ x ∈ l, in64 x ∧ 0 ≤ x
def Downs (l : List Int) : Prop := ∀ x ∈ l, in64 x ∧ x < 0
theorem ups_sum {l : List Int} (h : Ups l) : 0 ≤ sumI l := by
  induction l with
  | nil => exact Int.le_refl _
  | cons x l ih =>
    have h1 := (h x (List.mem_cons_self ..)).2
    have h2 := ih (fun y hy => h y (List.mem_cons_of_mem _ hy))
    simp only [sumI]
    omega
theorem downs_sum {l : List Int} (h : Downs l) : sumI l ≤ 0 := by
  induction l with
  | nil => exact Int.le_refl _
  | cons x l ih =>
    have h1 := (h x (List.mem_cons_self ..)).2
    have h2 := ih (fun y hy => h y (List.mem_cons_of_mem _ hy))
    simp only [sumI]
    omega
theorem sum_turns : ∀ (n : Nat) (up down : List Int) (s : Int), up.length + down.length = n → in64 s → Ups up → Downs down → Ev (fun k => cambistref01_Sum.l1 k up down s) (outOf (s + sumI up + sumI down)) := by
  intro n
  induction n with
  | zero =>
    intro up down s hn hs _ _
    have hu : up = [] := List.eq_nil_of_length_eq_zero (by omega)
    have hd : down = [] := List.eq_nil_of_length_eq_zero (by omega)
    subst hu hd
    refine ev_succ ?_
    simp only [cambistref01_Sum.l1]
    refine ev_neg (by decide) (ev_succ ?_)
    simp only [cambistref01_Sum.j2]
    refine ev_neg (by decide) (ev_some ?_)
    rw [outOf_in (by simpa [sumI] using hs)]
    simp [sumI]
  | succ n ih =>
    intro up down s hn hs hU hD
    refine ev_succ ?_
    simp only [cambistref01_Sum.l1]
    have s1 := hs.1
    have s2 := hs.2
    cases up with
    | nil =>
      cases down with
      | nil => simp at hn
      | cons d down =>
        have hd := hD d (List.mem_cons_self ..)
        have hd0 := hd.1.1
        have hd1 := hd.2
        have hD' : Downs down := fun y hy => hD y (List.mem_cons_of_mem _ hy)
        have hS := downs_sum hD'
        refine ev_neg (by simp) ?_
        rw [decide_eq_true (by simp <;> omega)]
        refine ev_succ ?_
        simp only [cambistref01_Sum.j2]
        refine ev_pos trivial (ev_neg (by simp) ?_)
        rw [beq_eq_false_iff_ne.2 (by simp <;> omega)]
        refine ev_succ ?_
        simp only [cambistref01_Sum.j3]
        refine ev_neg (by decide) (ev_neg (by simp) (ev_succ ?_))
        simp only [cambistref01_Sum.j4]
        refine ev_pos (by simp) (ev_pos (by simp <;> omega) (ev_opt (ref_add hs (b := d) hd.1) ?_))
        by_cases h : in64 (s + d)
        · rw [outOf_in h]
          refine ev_pos rfl (ev_pos (by simp <;> omega) ?_)
          refine ev_eq ?_ (ih [] down (s + d) (by simpa using hn) h (fun y hy => by cases hy) hD')
          congr 1
          simp only [sumI]
          omega
        · rw [outOf_over h]
          refine ev_neg (by decide) (ev_some ?_)
          rw [outOf_over]
          simp only [sumI]
          unfold in64 at h ⊢
          omega
    | cons u up =>
      have hu := hU u (List.mem_cons_self ..)
      have hu0 := hu.1.2
      have hu1 := hu.2
      have hU' : Ups up := fun y hy => hU y (List.mem_cons_of_mem _ hy)
      have hS := ups_sum hU'
      refine ev_pos (by simp <;> omega) (ev_succ ?_)
      simp only [cambistref01_Sum.j2]
      refine ev_pos trivial (ev_pos (by simp <;> omega) ?_)
      have up_first : (s < 0 ∨ down = []) → Ev (fun k => cambistref01_Sum.j3 k (u :: up) down s true) (outOf (s + sumI (u :: up) + sumI down)) := by
        intro hor
        refine ev_succ ?_
        simp only [cambistref01_Sum.j3]
        refine ev_pos trivial (ev_pos (by simp <;> omega) (ev_opt (ref_add hs (b := u) hu.1) ?_))
        by_cases h : in64 (s + u)
        · rw [outOf_in h]
          refine ev_pos rfl (ev_pos (by simp <;> omega) ?_)
          refine ev_eq ?_ (ih up down (s + u) (by simp only [List.length_cons] at hn; omega) h hU' hD)
          congr 1
          simp only [sumI]
          omega
        · rw [outOf_over h]
          refine ev_neg (by decide) (ev_some ?_)
          rw [outOf_over]
          rcases hor with hor | rfl
          · exfalso
            apply h
            unfold in64
            omega
          · simp only [sumI]
            unfold in64 at h ⊢
            omega
      by_cases hneg : s < 0
      · exact ev_pos hneg (up_first (.inl hneg))
      · refine ev_neg hneg ?_
        cases down with
        | nil => exact ev_pos rfl (up_first (.inr rfl))
        | cons d down =>
          have hd := hD d (List.mem_cons_self ..)
          have hd0 := hd.1.1
          have hd1 := hd.2
          have hD' : Downs down := fun y hy => hD y (List.mem_cons_of_mem _ hy)
          refine ev_neg (by simp <;> omega) ?_
          rw [beq_eq_false_iff_ne.2 (by simp <;> omega)]
          refine ev_succ ?_
          simp only [cambistref01_Sum.j3]
          refine ev_neg (by decide) (ev_pos (by simp <;> omega) (ev_pos (by omega) (ev_succ ?_)))
          simp only [cambistref01_Sum.j4]
          refine ev_pos trivial (ev_pos (by simp <;> omega) (ev_opt (ref_add hs (b := d) hd.1) ?_))
          have h : in64 (s + d) := by unfold in64; omega
          rw [outOf_in h]
          refine ev_pos rfl (ev_pos (by simp <;> omega) ?_)
          refine ev_eq ?_ (ih (u :: up) down (s + d) (by simp only [List.length_cons] at hn ⊢; omega) h hU hD')
          congr 1
          simp only [sumI]
          omega
theorem rd_in (l : List Int) (i : Nat) (_h : i < l.length) : rd l (i : Int) = l.getD i 0 := by simp [rd]
theorem getD_mem (l : List Int) (i : Nat) (h : i < l.length) : l.getD i 0 ∈ l := by
  rw [List.getD_eq_getElem?_getD, List.getElem?_eq_getElem h]
  exact List.getElem_mem h
theorem sum_parted (l : List Int) (hl : ∀ x ∈ l, in64 x) (hn : l.length ≤ 1048576) : ∀ (m i : Nat) (up down : List Int), l.length - i = m → i ≤ l.length → up.length + down.length = i → Ups up → Downs down → sumI up + sumI down = sumI (l.take i) → Ev (fun k => cambistref01_Sum.l0 k l up down (i : Int)) (outOf (sumI l)) := by
  intro m
  induction m with
  | zero =>
    intro i up down hm hi hlen hU hD hsum
    obtain rfl : i = l.length := by omega
    rw [List.take_length] at hsum
    refine ev_succ ?_
    simp only [cambistref01_Sum.l0]
    refine ev_neg (by omega) (ev_eq ?_ (sum_turns _ up down 0 rfl (by unfold in64; omega) hU hD))
    congr 1
    omega
  | succ m ih =>
    intro i up down hm hi hlen hU hD hsum
    have hlt : i < l.length := by omega
    have hx := hl _ (getD_mem l i hlt)
    have hs' : sumI (l.take (i + 1)) = sumI (l.take i) + l.getD i 0 := by rw [take_next l i hlt, sumI_app]; simp [sumI]
    refine ev_succ ?_
    simp only [cambistref01_Sum.l0]
    rw [rd_in l i hlt, wrap_next (n := 1048576) (by omega) (by decide)]
    refine ev_pos (by omega) (ev_pos (by omega) ?_)
    by_cases h0 : l.getD i 0 ≥ 0
    · refine ev_pos h0 (ev_pos (by omega) (ih (i + 1) _ down (by omega) (by omega) (by simp <;> omega) ?_ hD ?_))
      · intro x hx'
        rcases List.mem_append.1 hx' with hx' | hx'
        · exact hU x hx'
        · rw [List.mem_singleton.1 hx']
          exact ⟨hx, h0⟩
      · rw [hs', sumI_app]
        simp only [sumI]
        omega
    · refine ev_neg h0 (ev_pos (by omega) (ih (i + 1) up _ (by omega) (by omega) (by simp <;> omega) hU ?_ ?_))
      · intro x hx'
        rcases List.mem_append.1 hx' with hx' | hx'
        · exact hD x hx'
        · rw [List.mem_singleton.1 hx']
          exact ⟨hx, by omega⟩
      · rw [hs', sumI_app]
        simp only [sumI]
        omega
theorem ref_sum (l : List Int) (hl : ∀ x ∈ l, in64 x) (hn : l.length ≤ 1048576) : Ev (fun k => cambistref01_Sum.f k l) (outOf (sumI l)) :=
  sum_parted l hl hn _ 0 [] [] rfl (Nat.zero_le _) rfl (fun x hx => by cases hx) (fun x hx => by cases hx) rfl
end Go.Proofs.YtjlifcbddednaaaGreatDoor.E
namespace Go.Proofs.YtjlifcbddednaaaGreatDoor.E
open Go.RowKit Go.Proofs.YtjlifcbddednaaaGreatDoor.P Go.Proofs.YtjlifcbddednaaaGreatDoorW.PrintWords Go.Proofs.YtjlifcbddednaaaGreatDoorW.PrintLast
/-- How the document's Parse ends: the digits' number is taken, if its text is the text. -/
def refEnd (L : List UInt8) (less : Bool) (n : Nat) : Int × Int :=
  if (less = true ∧ 9223372036854775808 < n) ∨ (less = false ∧ 9223372036854775807 < n) then (0, 11)
  else if intText (if less = true then -(n : Int) else (n : Int)) = L then ((if less = true then -(n : Int) else (n : Int)), 0) else (0, 11)
theorem text_is {t : List UInt8} {s : ByteArray} : (⟨t.toArray⟩ : ByteArray).toList = s.toList ↔ t = s.data.toList := by
  rw [toList_data, toList_data]
theorem parse_end (s : ByteArray) (less : Bool) (n : Nat) (h : n < 18446744073709551616) : Ev (fun k => if less = true then (cambistref01_Parse.j4 k s less (n : Int) (decide ((n : Int) > 9223372036854775808))) else (if (n : Int) > 9223372036854775807 then (cambistref01_Parse.j4 k s less (n : Int) true) else (cambistref01_Parse.j4 k s less (n : Int) false))) (refEnd s.data.toList less n) := by
  cases less with
  | true =>
    refine ev_pos rfl (ev_succ ?_)
    simp only [cambistref01_Parse.j4]
    by_cases hb : (n : Int) > 9223372036854775808
    · refine ev_pos (decide_eq_true hb) (ev_some ?_)
      unfold refEnd
      rw [if_pos (.inl ⟨rfl, by omega⟩)]
    · have e : wrap64 (IntKind.u64.wrap (-(n : Int))) = -(n : Int) := by
        rw [IntKind.wrap_u64]
        unfold wrap64
        omega
      have hin : in64 (-(n : Int)) := by unfold in64; omega
      refine ev_neg (by simpa using hb) (ev_pos trivial ?_)
      rw [e]
      refine ev_call (ref_text hin) ?_
      have er : refEnd s.data.toList true n = if intText (-(n : Int)) = s.data.toList then (-(n : Int), 0) else (0, 11) := by
        unfold refEnd
        rw [if_neg (by rintro (⟨_, h2⟩ | ⟨h2, _⟩); omega; cases h2), if_pos rfl]
      rw [er]
      by_cases ht : intText (-(n : Int)) = s.data.toList
      · exact ev_pos (text_is.2 ht) (ev_some (by rw [if_pos ht]))
      · exact ev_neg (fun e => ht (text_is.1 e)) (ev_some (by rw [if_neg ht]))
  | false =>
    refine ev_neg (by decide) ?_
    by_cases hb : (n : Int) > 9223372036854775807
    · refine ev_pos hb (ev_succ ?_)
      simp only [cambistref01_Parse.j4]
      refine ev_pos trivial (ev_some ?_)
      unfold refEnd
      rw [if_pos (.inr ⟨rfl, by omega⟩)]
    · have hin : in64 (n : Int) := by unfold in64; omega
      refine ev_neg hb (ev_succ ?_)
      simp only [cambistref01_Parse.j4]
      refine ev_neg (by decide) (ev_neg (by decide) ?_)
      rw [wrap64_in hin]
      refine ev_call (ref_text hin) ?_
      have er : refEnd s.data.toList false n = if intText (n : Int) = s.data.toList then ((n : Int), 0) else (0, 11) := by
        have e1 : (if (false = true) then -(n : Int) else (n : Int)) = (n : Int) := if_neg (by decide)
        unfold refEnd
        rw [if_neg (by rintro (⟨h2, _⟩ | ⟨_, h2⟩); cases h2; omega), e1]
      rw [er]
      by_cases ht : intText (n : Int) = s.data.toList
      · exact ev_pos (text_is.2 ht) (ev_some (by rw [if_pos ht]))
      · exact ev_neg (fun e => ht (text_is.1 e)) (ev_some (by rw [if_neg ht]))
instance (c : UInt8) : Decidable (isTen c) := inferInstanceAs (Decidable (_ ∧ _))
theorem parse_loop (s ds : ByteArray) (less : Bool) (hds : ds.size ≤ 19) : ∀ (m i acc : Nat), ds.size - i = m → i ≤ ds.size → acc < 10 ^ i → Ev (fun k => cambistref01_Parse.l0 k s ds less (acc : Int) (i : Int)) (if ∀ c ∈ ds.data.toList.drop i, isTen c then refEnd s.data.toList less (foldTen acc (ds.data.toList.drop i)) else (0, 11)) := by
  intro m
  induction m with
  | zero =>
    intro i acc hm hi hacc
    obtain rfl : i = ds.size := by omega
    have hp : 10 ^ ds.size ≤ 10 ^ 19 := Nat.pow_le_pow_right (by decide) hds
    have he : ds.data.toList.drop ds.size = [] := List.drop_of_length_le (by rw [size_len]; omega)
    rw [he, if_pos (fun c hc => by cases hc)]
    refine ev_succ ?_
    simp only [cambistref01_Parse.l0]
    exact ev_neg (by omega) (parse_end s less acc (by omega))
  | succ m ih =>
    intro i acc hm hi hacc
    have hlt : i < ds.data.toList.length := by rw [size_len]; omega
    have hp : 10 ^ i ≤ 10 ^ 18 := Nat.pow_le_pow_right (by decide) (by omega)
    refine ev_succ ?_
    simp only [cambistref01_Parse.l0]
    rw [bt_get ds i hlt, wrap_next (n := 19) (by omega) (by decide)]
    have hdr : ds.data.toList.drop i = ds.data.toList[i] :: ds.data.toList.drop (i + 1) := List.drop_eq_getElem_cons hlt
    rw [hdr]
    generalize ds.data.toList[i] = c
    have hc256 := c.toNat_lt
    refine ev_pos (by omega) (ev_pos (by omega) ?_)
    by_cases h1 : (c.toNat : Int) < 48
    · refine ev_pos h1 (ev_some ?_)
      rw [if_neg (fun h => by have := (h c (List.mem_cons_self ..)).1; omega)]
    · refine ev_neg h1 ?_
      by_cases h2 : (c.toNat : Int) > 57
      · refine ev_pos h2 (ev_some ?_)
        rw [if_neg (fun h => by have := (h c (List.mem_cons_self ..)).2; omega)]
      · refine ev_neg h2 ?_
        have e : IntKind.u64.wrap ((IntKind.u64.wrap ((acc : Int) * 10)) + (((c.toNat : Int) - 48) % 256)) = ((acc * 10 + (c.toNat - 48) : Nat) : Int) := by
          rw [IntKind.wrap_u64, IntKind.wrap_u64]
          omega
        rw [e]
        refine ev_eq ?_ (ih (i + 1) (acc * 10 + (c.toNat - 48)) (by omega) (by omega) (by rw [Nat.pow_succ]; omega))
        have ht : isTen c := by unfold isTen; omega
        by_cases ha : ∀ d ∈ ds.data.toList.drop (i + 1), isTen d
        · rw [if_pos ha, if_pos (fun d hd => by
            rcases List.mem_cons.1 hd with rfl | hd
            · exact ht
            · exact ha d hd)]
          rfl
        · rw [if_neg ha, if_neg (fun h => ha fun d hd => h d (List.mem_cons_of_mem _ hd))]
/-- All of the document's Parse behind the sign. -/
def digitsEnd (L D : List UInt8) (less : Bool) : Int × Int := if D.length = 0 ∨ 19 < D.length then (0, 11) else if ∀ c ∈ D, isTen c then refEnd L less (foldTen 0 D) else (0, 11)
theorem parse_digits_end (s ds : ByteArray) (less : Bool) : Ev (fun k => cambistref01_Parse.j1 k s ds less) (digitsEnd s.data.toList ds.data.toList less) := by
  have hl := size_len ds
  refine ev_succ ?_
  simp only [cambistref01_Parse.j1]
  unfold digitsEnd
  by_cases h0 : ds.size = 0
  · refine ev_pos (by omega) (ev_succ ?_)
    simp only [cambistref01_Parse.j2]
    exact ev_pos trivial (ev_some (by rw [if_pos (.inl (by omega))]))
  · refine ev_neg (by omega) ?_
    by_cases h19 : (ds.size : Int) > 19
    · rw [decide_eq_true h19]
      refine ev_succ ?_
      simp only [cambistref01_Parse.j2]
      exact ev_pos trivial (ev_some (by rw [if_pos (.inr (by omega))]))
    · rw [decide_eq_false h19]
      refine ev_succ ?_
      simp only [cambistref01_Parse.j2]
      refine ev_neg (by decide) ?_
      rw [if_neg (by omega)]
      have := parse_loop s ds less (by omega) _ 0 0 rfl (Nat.zero_le _) (by decide)
      rw [List.drop_zero] at this
      exact this
theorem digits_facts {v : Int} (h : in64 v) : (∀ c ∈ decText v.natAbs, isTen c) ∧ foldTen 0 (decText v.natAbs) = v.natAbs ∧ decText v.natAbs ≠ [] ∧ (decText v.natAbs).length ≤ 19 := by
  have h1 := h.1
  have h2 := h.2
  obtain ⟨f1, f2, f3, _⟩ := decText_facts v.natAbs (by omega)
  have f := decRec_facts 19 v.natAbs (by omega) (by decide)
  refine ⟨f1, f2, f3, ?_⟩
  rw [decText_eq _ (by omega), ← decRec_eq 19 _ (by omega) (by decide)]
  exact f.2.2.2
theorem digitsEnd_no {L D : List UInt8} {less : Bool} (h : ∀ v, in64 v → intText v ≠ L) : digitsEnd L D less = (0, 11) := by
  unfold digitsEnd
  split
  · rfl
  · split
    · unfold refEnd
      split
      · rfl
      · rename_i hn
        rw [if_neg (h _ _)]
        generalize foldTen 0 D = n at *
        unfold in64
        cases less with
        | true =>
          rw [if_pos rfl]
          have : ¬ 9223372036854775808 < n := fun e => hn (.inl ⟨rfl, e⟩)
          omega
        | false =>
          rw [if_neg (by decide)]
          have : ¬ 9223372036854775807 < n := fun e => hn (.inr ⟨rfl, e⟩)
          omega
    · rfl
theorem digitsEnd_yes {v : Int} (h : in64 v) : digitsEnd (intText v) (decText v.natAbs) (decide (v < 0)) = (v, 0) := by
  obtain ⟨f1, f2, f3, f4⟩ := digits_facts h
  have h1 := h.1
  have h2 := h.2
  unfold digitsEnd
  rw [if_neg (by rintro (e | e); exact f3 (List.eq_nil_of_length_eq_zero e); omega), if_pos f1, f2]
  unfold refEnd
  by_cases hv : v < 0
  · have e : -((v.natAbs : Nat) : Int) = v := by omega
    rw [decide_eq_true hv, if_pos rfl, e, if_neg (by rintro (⟨_, e⟩ | ⟨e, _⟩); omega; cases e), if_pos rfl]
  · have e : ((v.natAbs : Nat) : Int) = v := by omega
    have e1 : (if (false = true) then -((v.natAbs : Nat) : Int) else ((v.natAbs : Nat) : Int)) = v := by rw [if_neg (by decide)]; exact e
    rw [decide_eq_false hv, e1, if_neg (by rintro (⟨e, _⟩ | ⟨_, e⟩); cases e; omega), if_pos rfl]
theorem ref_parse (s : ByteArray) : Ev (fun k => cambistref01_Parse.f k s) (parseOf s.data.toList) := by
  have hl := size_len s
  have fin : ∀ (ds : ByteArray) (less : Bool), (∀ v, in64 v → intText v = s.data.toList → ds.data.toList = decText v.natAbs ∧ less = decide (v < 0)) → digitsEnd s.data.toList ds.data.toList less = parseOf s.data.toList := by
    intro ds less h
    rcases parseOf_cases s.data.toList with ⟨v, hv, ht, hp⟩ | ⟨hno, hp⟩
    · obtain ⟨e1, e2⟩ := h v hv ht
      rw [hp, e1, e2, ← ht]
      exact digitsEnd_yes hv
    · rw [hp]
      exact digitsEnd_no hno
  unfold cambistref01_Parse.f
  by_cases h0 : (s.size : Int) > 0
  · have hlt : 0 < s.data.toList.length := by omega
    refine ev_pos h0 (ev_pos h0 ?_)
    rw [show bt s 0 = bt s ((0 : Nat) : Int) from rfl, bt_get s 0 hlt]
    obtain ⟨c, r, hL⟩ : ∃ c r, s.data.toList = c :: r := by
      match hh : s.data.toList with
      | [] => rw [hh] at hlt; simp at hlt
      | c :: r => exact ⟨c, r, rfl⟩
    · have hc0 : s.data.toList[0] = c := by simp [hL]
      rw [hc0]
      refine ev_succ ?_
      simp only [cambistref01_Parse.j0]
      by_cases hc : c.toNat = 45
      · have e : ((c.toNat : Int) == 45) = true := by rw [hc]; rfl
        rw [e]
        refine ev_pos rfl (ev_pos (by omega) ?_)
        refine ev_eq (fin _ _ ?_) (parse_digits_end s _ true)
        intro v hv ht
        have hd : (s.extract 1 s.size).data.toList = r := by
          rw [ByteArray.data_extract, Array.toList_extract]
          simp [hL, List.extract, ← hl]
        rw [hd]
        rw [hL] at ht
        unfold intText at ht
        by_cases hn : v < 0
        · rw [if_pos hn] at ht
          exact ⟨(List.cons.inj ht).2.symm, (decide_eq_true hn).symm⟩
        · exfalso
          rw [if_neg hn, show v.toNat = v.natAbs by omega] at ht
          have := (digits_facts hv).1 c (by rw [ht]; exact List.mem_cons_self ..)
          unfold isTen at this
          omega
      · have e : ((c.toNat : Int) == 45) = false := beq_eq_false_iff_ne.2 (by omega)
        rw [e]
        refine ev_neg (by decide) ?_
        refine ev_eq (fin _ _ ?_) (parse_digits_end s s false)
        intro v hv ht
        rw [hL] at ht ⊢
        unfold intText at ht
        by_cases hn : v < 0
        · exfalso
          rw [if_pos hn] at ht
          have := (List.cons.inj ht).1
          rw [← this] at hc
          exact hc rfl
        · rw [if_neg hn, show v.toNat = v.natAbs by omega] at ht
          exact ⟨ht.symm, (decide_eq_false hn).symm⟩
  · refine ev_neg h0 (ev_succ ?_)
    simp only [cambistref01_Parse.j0]
    refine ev_neg (by decide) (ev_eq (fin _ _ ?_) (parse_digits_end s s false))
    intro v hv ht
    exfalso
    have hnil : s.data.toList = [] := List.eq_nil_of_length_eq_zero (by omega)
    rw [hnil] at ht
    unfold intText at ht
    split at ht
    · cases ht
    · rename_i hn
      rw [show v.toNat = v.natAbs by omega] at ht
      exact (digits_facts hv).2.2.1 ht
theorem parse_some (s : ByteArray) (h : s.size ≤ 140737488351232) : coin_Parse.f s = some (parseOf s.data.toList) := if_pos h
end Go.Proofs.YtjlifcbddednaaaGreatDoor.E
