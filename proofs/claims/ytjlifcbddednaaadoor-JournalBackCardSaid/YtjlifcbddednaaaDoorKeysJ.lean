/- Keys: what label.Key answers, in plain words; and the document's. -/
import Derived.Test.YtjlifcbddednaaaDoorRefNames
import Derived.Test.YtjlifcbddednaaaDoorCut
import Derived.Test.YtjlifcbddednaaaDoorPx5
import Derived.Test.YtjlifcbddednaaaDoorPx9
namespace Go.Proofs.YtjlifcbddednaaaDoor.E
open Go.RowKit Go.Proofs.YtjlifcbddednaaaDoor.P Go.Proofs.YtjlifcbddednaaaDoorW.PrintWords Go.Proofs.YtjlifcbddednaaaDoorW.PrintLast

/-- Parts, each behind a bar. -/
def barred (l : List ByteArray) : List UInt8 := l.flatMap fun p => 124 :: p.data.toList
def keyData (c : UInt8) (l : List ByteArray) : List UInt8 := c :: barred l
def okKey (a : Int) (l : List ByteArray) : Bool := decide (97 ≤ a) && decide (a ≤ 122) && decide (1 ≤ l.length) && decide (l.length ≤ 4) && l.all (isPart isSign 16)
def spaceByte (a : Int) : UInt8 := UInt8.ofNat a.toNat
def keyOf (a : Int) (l : List ByteArray) : ByteArray × Int := if okKey a l = true then (⟨(keyData (spaceByte a) l).toArray⟩, 0) else (⟨#[]⟩, 20)
theorem keyOf_yes {a : Int} {l : List ByteArray} (h : okKey a l = true) : keyOf a l = (⟨(keyData (spaceByte a) l).toArray⟩, 0) := if_pos h
theorem keyOf_no {a : Int} {l : List ByteArray} (h : okKey a l = false) : keyOf a l = (⟨#[]⟩, 20) := if_neg (by rw [h]; simp)
theorem barred_cons (p : ByteArray) (l : List ByteArray) : barred (p :: l) = 124 :: (p.data.toList ++ barred l) := by simp [barred]
theorem barred_append (l m : List ByteArray) : barred (l ++ m) = barred l ++ barred m := by simp [barred]
theorem barred_join (l : List ByteArray) (h : l ≠ []) : barred l = 124 :: Lib.join (l.map (·.data.toList)) [124] := by
  induction l with
  | nil => exact absurd rfl h
  | cons p l ih =>
    rw [barred_cons]
    cases l with
    | nil => simp [barred, Lib.join, List.intercalate]
    | cons q l =>
      rw [ih (by simp)]
      simp [Lib.join, List.intercalate]
theorem okKey_parts {a : Int} {l : List ByteArray} (h : okKey a l = true) : 97 ≤ a ∧ a ≤ 122 ∧ 1 ≤ l.length ∧ l.length ≤ 4 ∧ ∀ p ∈ l, isPart isSign 16 p = true := by
  simp only [okKey, Bool.and_eq_true, decide_eq_true_eq, List.all_eq_true] at h
  exact ⟨h.1.1.1.1, h.1.1.1.2, h.1.1.2, h.1.2, h.2⟩
theorem isPart_size {p : UInt8 → Bool} {m : Int} {s : ByteArray} (h : isPart p m s = true) : 1 ≤ s.size ∧ (s.size : Int) ≤ m := by
  simp only [isPart, Bool.and_eq_true, decide_eq_true_eq] at h
  exact h.2
theorem isPart_all {p : UInt8 → Bool} {m : Int} {s : ByteArray} (h : isPart p m s = true) : s.data.toList.all p = true := by
  simp only [isPart, Bool.and_eq_true, decide_eq_true_eq] at h
  exact h.1
theorem barred_length {l : List ByteArray} (h : ∀ p ∈ l, isPart isSign 16 p = true) : (barred l).length ≤ l.length * 17 := by
  induction l with
  | nil => simp [barred]
  | cons p l ih =>
    have h1 := isPart_size (h p (List.mem_cons_self ..))
    have h2 := ih (fun q hq => h q (List.mem_cons_of_mem _ hq))
    rw [barred_cons]
    simp only [List.length_cons, List.length_append, size_len]
    omega
theorem strOf_one (a : Int) : (strOfNums [a]).data.toList = [spaceByte a] := rfl
theorem rdOf_get (l : List ByteArray) (i : Nat) (h : i < l.length) : rdOf ByteArray.empty l (i : Int) = l[i] := by
  unfold rdOf
  rw [Int.toNat_natCast, List.getD_eq_getElem?_getD, List.getElem?_eq_getElem h]
  rfl
theorem wrap_small {i n : Nat} (h : i ≤ n) (hn : n ≤ 1000000) : wrap64 ((i : Int) + 1) = ((i + 1 : Nat) : Int) := wrap_next h (by omega)

theorem key_loop (a : Int) (l : List ByteArray) (hl : ∀ p ∈ l, p.size ≤ 140737488351232) (h1 : 1 ≤ l.length) (h4 : l.length ≤ 4) : ∀ (m i : Nat), l.length - i = m → i ≤ l.length → (∀ p ∈ l.take i, isPart isSign 16 p = true) →
    Ev (fun k => label_Key.l0 k a l l (l.length : Int) (i : Int)) (if (l.drop i).all (isPart isSign 16) = true then (⟨(keyData (spaceByte a) l).toArray⟩, 0) else (⟨#[]⟩, 20)) := by
  intro m
  induction m with
  | zero =>
    intro i hm hi hp
    obtain rfl : i = l.length := by omega
    rw [List.take_length] at hp
    rw [List.drop_length, if_pos (show ([] : List ByteArray).all (isPart isSign 16) = true from rfl)]
    have hb := barred_length hp
    have hne : l ≠ [] := by intro e; rw [e] at h1; simp at h1
    have hj : strings_Join.f l ⟨#[124]⟩ = some (joinB l ⟨#[124]⟩) := by
      unfold strings_Join.f
      have h2 := barred_join l hne
      have h3 := congrArg List.length h2
      rw [List.length_cons] at h3
      exact if_pos ⟨by omega, by show (Lib.join (l.map (·.data.toList)) [124]).length ≤ _; omega⟩
    have hjs : (joinB l ⟨#[124]⟩).size + 1 = (barred l).length := by
      rw [barred_join l hne, List.length_cons, ← size_len]
      rfl
    refine ev_succ ?_
    simp only [label_Key.l0]
    refine ev_neg (by omega) (ev_opt rfl (ev_pos (by rw [← size_len, strOf_one]; simp) (ev_opt hj (ev_pos ?_ (ev_some ?_)))))
    · rw [ByteArray.size_append, ← size_len (strOfNums [a]), strOf_one]
      show 1 + 1 + (joinB l ⟨#[124]⟩).size ≤ _
      omega
    · congr 1
      apply text_ext
      rw [ByteArray.data_append, ByteArray.data_append, Array.toList_append, Array.toList_append, strOf_one]
      show [spaceByte a] ++ [124] ++ Lib.join (l.map (·.data.toList)) [124] = spaceByte a :: barred l
      rw [barred_join l hne]
      rfl
  | succ m ih =>
    intro i hm hi hp
    have hlt : i < l.length := by omega
    refine ev_succ ?_
    simp only [label_Key.l0]
    refine ev_pos (by omega) (ev_pos (by omega) (ev_pos (by omega) ?_))
    rw [rdOf_get l i hlt, List.drop_eq_getElem_cons hlt, List.all_cons]
    refine ev_opt (of_sign l[i] 16 (hl _ (List.getElem_mem hlt))) ?_
    cases hq : isPart isSign 16 l[i] with
    | true =>
      refine ev_pos rfl ?_
      rw [wrap_small hi (by omega)]
      exact ih (i + 1) (by omega) (by omega) (fun p hpm => by
        rw [List.take_succ_eq_append_getElem hlt] at hpm
        rcases List.mem_append.1 hpm with h | h
        · exact hp p h
        · rw [List.mem_singleton.1 h]; exact hq)
    | false => exact ev_neg (by decide) (ev_some rfl)
theorem key_some (a : Int) (l : List ByteArray) (hl : ∀ p ∈ l, p.size ≤ 140737488351232) : Ev (fun k => label_Key.f k a l) (keyOf a l) := by
  unfold label_Key.f
  have bad : okKey a l = false → Ev (fun k => label_Key.j0 k a l true) (keyOf a l) := by
    intro h
    unfold keyOf
    rw [h]
    refine ev_succ ?_
    simp only [label_Key.j0]
    exact ev_pos trivial (ev_some rfl)
  by_cases h1 : a < 97
  · exact ev_pos h1 (bad (by unfold okKey; rw [decide_eq_false (by omega : ¬ 97 ≤ a)]; rfl))
  refine ev_neg h1 ?_
  by_cases h2 : a > 122
  · exact ev_pos h2 (bad (by unfold okKey; rw [decide_eq_false (by omega : ¬ a ≤ 122)]; simp))
  refine ev_neg h2 ?_
  by_cases h3 : (l.length : Int) < 1
  · exact ev_pos h3 (bad (by unfold okKey; rw [decide_eq_false (by omega : ¬ 1 ≤ l.length)]; simp))
  refine ev_neg h3 ?_
  by_cases h4 : (l.length : Int) > 4
  · rw [decide_eq_true h4]
    exact bad (by unfold okKey; rw [decide_eq_false (by omega : ¬ l.length ≤ 4)]; simp)
  · rw [decide_eq_false h4]
    refine ev_succ ?_
    simp only [label_Key.j0]
    refine ev_neg (by decide) (ev_eq ?_ (key_loop a l hl (by omega) (by omega) l.length 0 (by omega) (by omega) (by simp)))
    unfold keyOf okKey
    rw [decide_eq_true (by omega : 97 ≤ a), decide_eq_true (by omega : a ≤ 122), decide_eq_true (by omega : 1 ≤ l.length), decide_eq_true (by omega : l.length ≤ 4)]
    rfl

theorem ref_key_loop (a : Int) (l : List ByteArray) (hl : ∀ p ∈ l, p.size ≤ 140737488351232) (h4 : l.length ≤ 4) : ∀ (m i : Nat), l.length - i = m → i ≤ l.length → (∀ p ∈ l.take i, isPart isSign 16 p = true) →
    Ev (fun k => cambistref02_Key.l0 k l ⟨(keyData (spaceByte a) (l.take i)).toArray⟩ (i : Int)) (if (l.drop i).all (isPart isSign 16) = true then (⟨(keyData (spaceByte a) l).toArray⟩, 0) else (⟨#[]⟩, 20)) := by
  intro m
  induction m with
  | zero =>
    intro i hm hi hp
    obtain rfl : i = l.length := by omega
    rw [List.take_length, List.drop_length, if_pos (show ([] : List ByteArray).all (isPart isSign 16) = true from rfl)]
    refine ev_succ ?_
    simp only [cambistref02_Key.l0]
    exact ev_neg (by omega) (ev_some rfl)
  | succ m ih =>
    intro i hm hi hp
    have hlt : i < l.length := by omega
    have hb := barred_length hp
    rw [List.length_take, Nat.min_eq_left hi] at hb
    have hsz : (⟨(keyData (spaceByte a) (l.take i)).toArray⟩ : ByteArray).size = (barred (l.take i)).length + 1 := by
      rw [← size_len]; simp [keyData]
    refine ev_succ ?_
    simp only [cambistref02_Key.l0]
    refine ev_pos (by omega) (ev_pos (by omega) ?_)
    rw [rdOf_get l i hlt, List.drop_eq_getElem_cons hlt, List.all_cons]
    refine ev_call (ref_part l[i] 16 (hl _ (List.getElem_mem hlt))) ?_
    cases hq : isPart isSign 16 l[i] with
    | true =>
      have hq2 := isPart_size hq
      refine ev_pos rfl (ev_pos (by omega) (ev_pos ?_ ?_))
      · rw [ByteArray.size_append, hsz]
        show (barred (l.take i)).length + 1 + 1 + l[i].size ≤ _
        omega
      · rw [wrap_small hi (by omega)]
        have next := ih (i + 1) (by omega) (by omega) (fun p hpm => by
          rw [List.take_succ_eq_append_getElem hlt] at hpm
          rcases List.mem_append.1 hpm with h | h
          · exact hp p h
          · rw [List.mem_singleton.1 h]; exact hq)
        have e : (⟨(keyData (spaceByte a) (l.take (i + 1))).toArray⟩ : ByteArray) = ⟨(keyData (spaceByte a) (l.take i)).toArray⟩ ++ ⟨#[124]⟩ ++ l[i] := by
          apply text_ext
          have eb : barred (l.take (i + 1)) = barred (l.take i) ++ 124 :: l[i].data.toList := by
            rw [List.take_succ_eq_append_getElem hlt, barred_append]
            simp [barred]
          simp [keyData, eb]
        rw [e] at next
        exact next
    | false => exact ev_neg (by decide) (ev_some rfl)
theorem ref_key (a : Int) (l : List ByteArray) (hl : ∀ p ∈ l, p.size ≤ 140737488351232) : Ev (fun k => cambistref02_Key.f k a l) (keyOf a l) := by
  unfold cambistref02_Key.f
  have bad : okKey a l = false → Ev (fun k => cambistref02_Key.j0 k a l true) (keyOf a l) := by
    intro h
    unfold keyOf
    rw [h]
    refine ev_succ ?_
    simp only [cambistref02_Key.j0]
    exact ev_pos trivial (ev_some rfl)
  by_cases h1 : a < 97
  · exact ev_pos h1 (bad (by unfold okKey; rw [decide_eq_false (by omega : ¬ 97 ≤ a)]; rfl))
  refine ev_neg h1 ?_
  by_cases h2 : a > 122
  · exact ev_pos h2 (bad (by unfold okKey; rw [decide_eq_false (by omega : ¬ a ≤ 122)]; simp))
  refine ev_neg h2 ?_
  by_cases h3 : (l.length : Int) < 1
  · exact ev_pos h3 (bad (by unfold okKey; rw [decide_eq_false (by omega : ¬ 1 ≤ l.length)]; simp))
  refine ev_neg h3 ?_
  by_cases h4 : (l.length : Int) > 4
  · rw [decide_eq_true h4]
    exact bad (by unfold okKey; rw [decide_eq_false (by omega : ¬ l.length ≤ 4)]; simp)
  · rw [decide_eq_false h4]
    refine ev_succ ?_
    simp only [cambistref02_Key.j0]
    refine ev_neg (by decide) (ev_eq ?_ (ref_key_loop a l hl (by omega) l.length 0 (by omega) (by omega) (by simp)))
    unfold keyOf okKey
    rw [decide_eq_true (by omega : 97 ≤ a), decide_eq_true (by omega : a ≤ 122), decide_eq_true (by omega : 1 ≤ l.length), decide_eq_true (by omega : l.length ≤ 4)]
    rfl
end Go.Proofs.YtjlifcbddednaaaDoor.E
