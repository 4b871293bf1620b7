/- Keys: what label.Key and label.Split answer, in plain words; and the document's. -/
import Derived.Test.YtalepbkdakjhdaaDoorRefNames
import Derived.Test.YtalepbkdakjhdaaDoorCut
import Derived.Test.YtalepbkdakjhdaaDoorPx1
import Derived.Test.YtalepbkdakjhdaaDoorPx2
import Derived.Test.YtalepbkdakjhdaaDoorPx2
import Derived.Test.YtalepbkdakjhdaaDoorPx4
import Derived.Test.YtalepbkdakjhdaaDoorPx5
namespace Go.Proofs.YtalepbkdakjhdaaDoor.E
open Go.RowKit Go.Proofs.YtalepbkdakjhdaaDoor.P Go.Proofs.YtalepbkdakjhdaaDoorW.PrintWords Go.Proofs.YtalepbkdakjhdaaDoorW.PrintLast

/-- Parts, each behind a bar. -/
def barred (l : List ByteArray) : List UInt8 := l.flatMap fun p => 124 :: p.data.toList
def keyData (c : UInt8) (l : List ByteArray) : List UInt8 := c :: barred l
def okKey (a : Int) (l : List ByteArray) : Bool := decide (97 ≤ a) && decide (a ≤ 122) && decide (1 ≤ l.length) && decide (l.length ≤ 4) && l.all (isPart isSign 16)
def spaceByte (a : Int) : UInt8 := UInt8.ofNat a.toNat
def keyOf (a : Int) (l : List ByteArray) : ByteArray × Int := if okKey a l = true then (⟨(keyData (spaceByte a) l).toArray⟩, 0) else (⟨#[]⟩, 20)
theorem keyOf_yes {a : Int} {l : List ByteArray} (h : okKey a l = true) : keyOf a l = (⟨(keyData (spaceByte a) l).toArray⟩, 0) := if_pos h
theorem keyOf_no {a : Int} {l : List ByteArray} (h : okKey a l = false) : keyOf a l = (⟨#[]⟩, 20) := if_neg (by rw [h]; simp)
theorem barred_cons (p : ByteArray) (l : List ByteArray) : barred (p :: l) = 124 :: (p.data.toList ++ barred l) := by simp [barred]
theorem barred_append (l m : List ByteArray) : barred (l ++ m) = barred l ++ barred m := by simp [barred]
theorem barred_join (l : List ByteArray) (h : l ≠ []) : barred l = 124 :: Lib.join (l.map (·.data.toList)) [124] := by
  induction l with
  | nil => exact absurd rfl h
  | cons p l ih =>
    rw [barred_cons]
    cases l with
    | nil => simp [barred, Lib.join, List.intercalate]
    | cons q l =>
      rw [ih (by simp)]
      simp [Lib.join, List.intercalate]
theorem okKey_parts {a : Int} {l : List ByteArray} (h : okKey a l = true) : 97 ≤ a ∧ a ≤ 122 ∧ 1 ≤ l.length ∧ l.length ≤ 4 ∧ ∀ p ∈ l, isPart isSign 16 p = true := by
  simp only [okKey, Bool.and_eq_true, decide_eq_true_eq, List.all_eq_true] at h
  exact ⟨h.1.1.1.1, h.1.1.1.2, h.1.1.2, h.1.2, h.2⟩
theorem isPart_size {p : UInt8 → Bool} {m : Int} {s : ByteArray} (h : isPart p m s = true) : 1 ≤ s.size ∧ (s.size : Int) ≤ m := by
  simp only [isPart, Bool.and_eq_true, decide_eq_true_eq] at h
  exact h.2
theorem isPart_all {p : UInt8 → Bool} {m : Int} {s : ByteArray} (h : isPart p m s = true) : s.data.toList.all p = true := by
  simp only [isPart, Bool.and_eq_true, decide_eq_true_eq] at h
  exact h.1
theorem barred_length {l : List ByteArray} (h : ∀ p ∈ l, isPart isSign 16 p = true) : (barred l).length ≤ l.length * 17 := by
  induction l with
  | nil => simp [barred]
  | cons p l ih =>
    have h1 := isPart_size (h p (List.mem_cons_self ..))
    have h2 := ih (fun q hq => h q (List.mem_cons_of_mem _ hq))
    rw [barred_cons]
    simp only [List.length_cons, List.length_append, size_len]
    omega
theorem strOf_one (a : Int) : (strOfNums [a]).data.toList = [spaceByte a] := rfl
theorem rdOf_get (l : List ByteArray) (i : Nat) (h : i < l.length) : rdOf ByteArray.empty l (i : Int) = l[i] := by
  unfold rdOf
  rw [Int.toNat_natCast, List.getD_eq_getElem?_getD, List.getElem?_eq_getElem h]
  rfl
theorem wrap_small {i n : Nat} (h : i ≤ n) (hn : n ≤ 1000000) : wrap64 ((i : Int) + 1) = ((i + 1 : Nat) : Int) := wrap_next h (by omega)

theorem key_loop (a : Int) (l : List ByteArray) (hl : ∀ p ∈ l, p.size ≤ 140737488351232) (h1 : 1 ≤ l.length) (h4 : l.length ≤ 4) : ∀ (m i : Nat), l.length - i = m → i ≤ l.length → (∀ p ∈ l.take i, isPart isSign 16 p = true) →
    Ev (fun k => label_Key.l0 k a l l (l.length : Int) (i : Int)) (if (l.drop i).all (isPart isSign 16) = true then (⟨(keyData (spaceByte a) l).toArray⟩, 0) else (⟨#[]⟩, 20)) := by
  intro m
  induction m with
  | zero =>
    intro i hm hi hp
    obtain rfl : i = l.length := by omega
    rw [List.take_length] at hp
    rw [List.drop_length, if_pos (show ([] : List ByteArray).all (isPart isSign 16) = true from rfl)]
    have hb := barred_length hp
    have hne : l ≠ [] := by intro e; rw [e] at h1; simp at h1
    have hj : strings_Join.f l ⟨#[124]⟩ = some (joinB l ⟨#[124]⟩) := by
      unfold strings_Join.f
      have h2 := barred_join l hne
      have h3 := congrArg List.length h2
      rw [List.length_cons] at h3
      exact if_pos ⟨by omega, by show (Lib.join (l.map (·.data.toList)) [124]).length ≤ _; omega⟩
    have hjs : (joinB l ⟨#[124]⟩).size + 1 = (barred l).length := by
      rw [barred_join l hne, List.length_cons, ← size_len]
      rfl
    refine ev_succ ?_
    simp only [label_Key.l0]
    refine ev_neg (by omega) (ev_opt rfl (ev_pos (by rw [← size_len, strOf_one]; simp) (ev_opt hj (ev_pos ?_ (ev_some ?_)))))
    · rw [ByteArray.size_append, ← size_len (strOfNums [a]), strOf_one]
      show 1 + 1 + (joinB l ⟨#[124]⟩).size ≤ _
      omega
    · congr 1
      apply text_ext
      rw [ByteArray.data_append, ByteArray.data_append, Array.toList_append, Array.toList_append, strOf_one]
      show [spaceByte a] ++ [124] ++ Lib.join (l.map (·.data.toList)) [124] = spaceByte a :: barred l
      rw [barred_join l hne]
      rfl
  | succ m ih =>
    intro i hm hi hp
    have hlt : i < l.length := by omega
    refine ev_succ ?_
    simp only [label_Key.l0]
    refine ev_pos (by omega) (ev_pos (by omega) (ev_pos (by omega) ?_))
    rw [rdOf_get l i hlt, List.drop_eq_getElem_cons hlt, List.all_cons]
    refine ev_opt (of_sign l[i] 16 (hl _ (List.getElem_mem hlt))) ?_
    cases hq : isPart isSign 16 l[i] with
    | true =>
      refine ev_pos rfl ?_
      rw [wrap_small hi (by omega)]
      exact ih (i + 1) (by omega) (by omega) (fun p hpm => by
        rw [List.take_succ_eq_append_getElem hlt] at hpm
        rcases List.mem_append.1 hpm with h | h
        · exact hp p h
        · rw [List.mem_singleton.1 h]; exact hq)
    | false => exact ev_neg (by decide) (ev_some rfl)
theorem key_some (a : Int) (l : List ByteArray) (hl : ∀ p ∈ l, p.size ≤ 140737488351232) : Ev (fun k => label_Key.f k a l) (keyOf a l) := by
  unfold label_Key.f
  have bad : okKey a l = false → Ev (fun k => label_Key.j0 k a l true) (keyOf a l) := by
    intro h
    unfold keyOf
    rw [h]
    refine ev_succ ?_
    simp only [label_Key.j0]
    exact ev_pos trivial (ev_some rfl)
  by_cases h1 : a < 97
  · exact ev_pos h1 (bad (by unfold okKey; rw [decide_eq_false (by omega : ¬ 97 ≤ a)]; rfl))
  refine ev_neg h1 ?_
  by_cases h2 : a > 122
  · exact ev_pos h2 (bad (by unfold okKey; rw [decide_eq_false (by omega : ¬ a ≤ 122)]; simp))
  refine ev_neg h2 ?_
  by_cases h3 : (l.length : Int) < 1
  · exact ev_pos h3 (bad (by unfold okKey; rw [decide_eq_false (by omega : ¬ 1 ≤ l.length)]; simp))
  refine ev_neg h3 ?_
  by_cases h4 : (l.length : Int) > 4
  · rw [decide_eq_true h4]
    exact bad (by unfold okKey; rw [decide_eq_false (by omega : ¬ l.length ≤ 4)]; simp)
  · rw [decide_eq_false h4]
    refine ev_succ ?_
    simp only [label_Key.j0]
    refine ev_neg (by decide) (ev_eq ?_ (key_loop a l hl (by omega) (by omega) l.length 0 (by omega) (by omega) (by simp)))
    unfold keyOf okKey
    rw [decide_eq_true (by omega : 97 ≤ a), decide_eq_true (by omega : a ≤ 122), decide_eq_true (by omega : 1 ≤ l.length), decide_eq_true (by omega : l.length ≤ 4)]
    rfl

theorem ref_key_loop (a : Int) (l : List ByteArray) (hl : ∀ p ∈ l, p.size ≤ 140737488351232) (h4 : l.length ≤ 4) : ∀ (m i : Nat), l.length - i = m → i ≤ l.length → (∀ p ∈ l.take i, isPart isSign 16 p = true) →
    Ev (fun k => cambistref02_Key.l0 k l ⟨(keyData (spaceByte a) (l.take i)).toArray⟩ (i : Int)) (if (l.drop i).all (isPart isSign 16) = true then (⟨(keyData (spaceByte a) l).toArray⟩, 0) else (⟨#[]⟩, 20)) := by
  intro m
  induction m with
  | zero =>
    intro i hm hi hp
    obtain rfl : i = l.length := by omega
    rw [List.take_length, List.drop_length, if_pos (show ([] : List ByteArray).all (isPart isSign 16) = true from rfl)]
    refine ev_succ ?_
    simp only [cambistref02_Key.l0]
    exact ev_neg (by omega) (ev_some rfl)
  | succ m ih =>
    intro i hm hi hp
    have hlt : i < l.length := by omega
    have hb := barred_length hp
    rw [List.length_take, Nat.min_eq_left hi] at hb
    have hsz : (⟨(keyData (spaceByte a) (l.take i)).toArray⟩ : ByteArray).size = (barred (l.take i)).length + 1 := by
      rw [← size_len]; simp [keyData]
    refine ev_succ ?_
    simp only [cambistref02_Key.l0]
    refine ev_pos (by omega) (ev_pos (by omega) ?_)
    rw [rdOf_get l i hlt, List.drop_eq_getElem_cons hlt, List.all_cons]
    refine ev_call (ref_part l[i] 16 (hl _ (List.getElem_mem hlt))) ?_
    cases hq : isPart isSign 16 l[i] with
    | true =>
      have hq2 := isPart_size hq
      refine ev_pos rfl (ev_pos (by omega) (ev_pos ?_ ?_))
      · rw [ByteArray.size_append, hsz]
        show (barred (l.take i)).length + 1 + 1 + l[i].size ≤ _
        omega
      · rw [wrap_small hi (by omega)]
        have next := ih (i + 1) (by omega) (by omega) (fun p hpm => by
          rw [List.take_succ_eq_append_getElem hlt] at hpm
          rcases List.mem_append.1 hpm with h | h
          · exact hp p h
          · rw [List.mem_singleton.1 h]; exact hq)
        have e : (⟨(keyData (spaceByte a) (l.take (i + 1))).toArray⟩ : ByteArray) = ⟨(keyData (spaceByte a) (l.take i)).toArray⟩ ++ ⟨#[124]⟩ ++ l[i] := by
          apply text_ext
          have eb : barred (l.take (i + 1)) = barred (l.take i) ++ 124 :: l[i].data.toList := by
            rw [List.take_succ_eq_append_getElem hlt, barred_append]
            simp [barred]
          simp [keyData, eb]
        rw [e] at next
        exact next
    | false => exact ev_neg (by decide) (ev_some rfl)
theorem ref_key (a : Int) (l : List ByteArray) (hl : ∀ p ∈ l, p.size ≤ 140737488351232) : Ev (fun k => cambistref02_Key.f k a l) (keyOf a l) := by
  unfold cambistref02_Key.f
  have bad : okKey a l = false → Ev (fun k => cambistref02_Key.j0 k a l true) (keyOf a l) := by
    intro h
    unfold keyOf
    rw [h]
    refine ev_succ ?_
    simp only [cambistref02_Key.j0]
    exact ev_pos trivial (ev_some rfl)
  by_cases h1 : a < 97
  · exact ev_pos h1 (bad (by unfold okKey; rw [decide_eq_false (by omega : ¬ 97 ≤ a)]; rfl))
  refine ev_neg h1 ?_
  by_cases h2 : a > 122
  · exact ev_pos h2 (bad (by unfold okKey; rw [decide_eq_false (by omega : ¬ a ≤ 122)]; simp))
  refine ev_neg h2 ?_
  by_cases h3 : (l.length : Int) < 1
  · exact ev_pos h3 (bad (by unfold okKey; rw [decide_eq_false (by omega : ¬ 1 ≤ l.length)]; simp))
  refine ev_neg h3 ?_
  by_cases h4 : (l.length : Int) > 4
  · rw [decide_eq_true h4]
    exact bad (by unfold okKey; rw [decide_eq_false (by omega : ¬ l.length ≤ 4)]; simp)
  · rw [decide_eq_false h4]
    refine ev_succ ?_
    simp only [cambistref02_Key.j0]
    refine ev_neg (by decide) (ev_eq ?_ (ref_key_loop a l hl (by omega) l.length 0 (by omega) (by omega) (by simp)))
    unfold keyOf okKey
    rw [decide_eq_true (by omega : 97 ≤ a), decide_eq_true (by omega : a ≤ 122), decide_eq_true (by omega : 1 ≤ l.length), decide_eq_true (by omega : l.length ≤ 4)]
    rfl

theorem same_loop (l m : List ByteArray) (he : l.length = m.length) (hn : l.length ≤ 140737488351232) : ∀ (d i : Nat), l.length - i = d → i ≤ l.length → Ev (fun k => cambistref02_Same.l0 k l m (i : Int)) (decide (l.drop i = m.drop i)) := by
  intro d
  induction d with
  | zero =>
    intro i hm hi
    refine ev_succ ?_
    simp only [cambistref02_Same.l0]
    rw [List.drop_of_length_le (by omega : l.length ≤ i), List.drop_of_length_le (by omega : m.length ≤ i)]
    exact ev_neg (by omega) (ev_some rfl)
  | succ d ih =>
    intro i hm hi
    have h1 : i < l.length := by omega
    have h2 : i < m.length := by omega
    refine ev_succ ?_
    simp only [cambistref02_Same.l0]
    refine ev_pos (by omega) (ev_pos (by omega) (ev_pos (by omega) ?_))
    rw [rdOf_get l i h1, rdOf_get m i h2, List.drop_eq_getElem_cons h1, List.drop_eq_getElem_cons h2]
    by_cases e : l[i] = m[i]
    · refine ev_pos (by rw [e]) ?_
      rw [wrap_next hi hn]
      refine ev_eq ?_ (ih (i + 1) (by omega) (by omega))
      rw [Bool.eq_iff_iff, decide_eq_true_eq, decide_eq_true_eq, e, List.cons.injEq]
      exact ⟨fun h => ⟨rfl, h⟩, fun h => h.2⟩
    · refine ev_neg (fun h => e (toList_inj.1 h)) (ev_some ?_)
      rw [decide_eq_false]
      rw [List.cons.injEq]
      exact fun h => e h.1
theorem ref_same (l m : List ByteArray) (hn : l.length ≤ 140737488351232) : Ev (fun k => cambistref02_Same.f k l m) (decide (l = m)) := by
  unfold cambistref02_Same.f
  by_cases he : l.length = m.length
  · exact ev_pos (by omega) (same_loop l m he hn l.length 0 (by omega) (by omega))
  · refine ev_neg (by omega) (ev_some ?_)
    rw [decide_eq_false]
    intro e
    exact he (by rw [e])

/-! ### Split -/
theorem barred_cut (l : List UInt8) : ((cutAt 124 l).flatMap fun p => 124 :: p) = 124 :: l := by
  induction l with
  | nil => rfl
  | cons b l ih =>
    by_cases h : b = 124
    · subst h
      rw [cutAt_cons_eq, List.flatMap_cons, ih]
      rfl
    · obtain ⟨x, t, e1, e2⟩ := cutAt_cons_ne h l
      rw [e2, List.flatMap_cons]
      rw [e1, List.flatMap_cons] at ih
      simp only [List.cons_append, List.cons.injEq, true_and] at ih ⊢
      exact ih
def partsOf (l : List UInt8) : List ByteArray := (cutAt 124 l).map fun p => ⟨p.toArray⟩
theorem barred_partsOf (l : List UInt8) : barred (partsOf l) = 124 :: l := by
  rw [← barred_cut l]
  unfold barred partsOf
  rw [List.flatMap_map]
theorem cutAt_append (x y : List UInt8) : cutAt 124 (x ++ 124 :: y) = cutAt 124 x ++ cutAt 124 y := by
  induction x with
  | nil => rw [List.nil_append, cutAt_cons_eq]; rfl
  | cons b x ih =>
    by_cases h : b = 124
    · subst h
      rw [List.cons_append, cutAt_cons_eq, cutAt_cons_eq, ih]
      rfl
    · obtain ⟨u, t, e1, e2⟩ := cutAt_cons_ne h x
      obtain ⟨u', t', e1', e2'⟩ := cutAt_cons_ne h (x ++ 124 :: y)
      rw [List.cons_append, e2', e2]
      rw [ih, e1] at e1'
      simp only [List.cons_append, List.cons.injEq] at e1'
      rw [← e1'.1, ← e1'.2]
      rfl
theorem cutAt_none (x : List UInt8) (h : ∀ b ∈ x, b ≠ 124) : cutAt 124 x = [x] := by
  induction x with
  | nil => rfl
  | cons b x ih =>
    obtain ⟨u, t, e1, e2⟩ := cutAt_cons_ne (h b (List.mem_cons_self ..)) x
    rw [ih (fun c hc => h c (List.mem_cons_of_mem _ hc))] at e1
    simp only [List.cons.injEq] at e1
    rw [e2, ← e1.1, ← e1.2]
theorem partsOf_append (x y : List UInt8) : partsOf (x ++ 124 :: y) = partsOf x ++ partsOf y := by
  unfold partsOf
  rw [cutAt_append, List.map_append]
theorem sign_ne {p : ByteArray} (h : isPart isSign 16 p = true) : ∀ b ∈ p.data.toList, b ≠ 124 := by
  intro b hb e
  have := List.all_eq_true.1 (isPart_all h) b hb
  rw [e] at this
  revert this
  decide
/-- Parts are found again. -/
theorem partsOf_barred : ∀ (l : List ByteArray), l ≠ [] → (∀ p ∈ l, isPart isSign 16 p = true) → ∃ r, barred l = 124 :: r ∧ partsOf r = l
  | [], h, _ => absurd rfl h
  | [p], _, hp => by
    refine ⟨p.data.toList, by simp [barred], ?_⟩
    unfold partsOf
    rw [cutAt_none _ (sign_ne (hp p (List.mem_cons_self ..)))]
    simp
  | p :: q :: l, _, hp => by
    obtain ⟨r, e1, e2⟩ := partsOf_barred (q :: l) (by simp) (fun x hx => hp x (List.mem_cons_of_mem _ hx))
    refine ⟨p.data.toList ++ 124 :: r, by rw [barred_cons, e1], ?_⟩
    rw [partsOf_append, e2]
    unfold partsOf
    rw [cutAt_none _ (sign_ne (hp p (List.mem_cons_self ..)))]
    simp
/-- The space and the parts of a key; 20: none. -/
def splitOf (d : List UInt8) : Int × List ByteArray × Int := match d with
  | c :: b :: r => if b = 124 ∧ okKey (c.toNat : Int) (partsOf r) = true then ((c.toNat : Int), partsOf r, 0) else (0, [], 20)
  | _ => (0, [], 20)
theorem splitOf_yes (c : UInt8) (r : List UInt8) (h : okKey (c.toNat : Int) (partsOf r) = true) : splitOf (c :: 124 :: r) = ((c.toNat : Int), partsOf r, 0) := by
  show (if (124 : UInt8) = 124 ∧ okKey (c.toNat : Int) (partsOf r) = true then ((c.toNat : Int), partsOf r, (0 : Int)) else (0, [], 20)) = _
  rw [if_pos ⟨rfl, h⟩]
theorem splitOf_no (c : UInt8) (r : List UInt8) (h : okKey (c.toNat : Int) (partsOf r) = false) : splitOf (c :: 124 :: r) = (0, [], 20) := by
  show (if (124 : UInt8) = 124 ∧ okKey (c.toNat : Int) (partsOf r) = true then ((c.toNat : Int), partsOf r, (0 : Int)) else (0, [], 20)) = _
  rw [if_neg (by rw [h]; simp)]
theorem splitOf_else (c b : UInt8) (r : List UInt8) (h : b ≠ 124) : splitOf (c :: b :: r) = (0, [], 20) := by
  show (if b = 124 ∧ okKey (c.toNat : Int) (partsOf r) = true then ((c.toNat : Int), partsOf r, (0 : Int)) else (0, [], 20)) = _
  rw [if_neg (fun e => h e.1)]
theorem spaceByte_toNat (c : UInt8) : spaceByte (c.toNat : Int) = c := by simp [spaceByte]
theorem bt_head (s : ByteArray) (c : UInt8) (r : List UInt8) (h : s.data.toList = c :: r) : bt s 0 = (c.toNat : Int) := by
  have := bt_get s 0 (by rw [h]; simp)
  simp only [h, List.getElem_cons_zero] at this
  exact this
theorem okKey_bar (l : List ByteArray) : okKey 124 l = false := by
  unfold okKey
  rw [decide_eq_false (by decide : ¬ (124 : Int) ≤ 122)]
  simp
theorem okKey_nil (a : Int) : okKey a [] = false := by simp [okKey]
theorem parts_small (d : List UInt8) (h : d.length ≤ 4294967280) : ∀ p ∈ partsOf d, p.size ≤ 140737488351232 := by
  intro p hp
  obtain ⟨x, hx, rfl⟩ := List.mem_map.1 hp
  have h1 := congrArg List.length (barred_cut d)
  have h2 : x.length + 1 ≤ ((cutAt 124 d).flatMap fun p => 124 :: p).length := by
    obtain ⟨u, v, e⟩ := List.append_of_mem hx
    rw [e]
    simp
    omega
  rw [h1, List.length_cons] at h2
  show (⟨x.toArray⟩ : ByteArray).size ≤ _
  rw [← size_len]
  simp
  omega
theorem split_some (s : ByteArray) (hs : s.size ≤ 4294967280) : Ev (fun k => label_Split.f k s) (splitOf s.data.toList) := by
  unfold label_Split.f
  have h0 : strings_Split.f s ⟨#[124]⟩ = some (splitOn s 124) := by
    unfold strings_Split.f
    rw [if_pos (by omega)]
  have hpo : splitOn s 124 = partsOf s.data.toList := rfl
  refine ev_opt h0 ?_
  rw [hpo]
  have hlen : s.data.toList.length ≤ 4294967280 := by rw [size_len]; exact hs
  have hps := parts_small s.data.toList hlen
  cases hl : s.data.toList with
  | nil =>
    refine ev_pos (by decide) (ev_neg (by decide) (ev_some rfl))
  | cons c r =>
    rw [hl] at hps
    have hbt := bt_head s c r hl
    have hsz : (0 : Int) < (s.size : Int) := by rw [← size_len, hl, List.length_cons]; omega
    by_cases hc : c = 124
    · subst hc
      have e : partsOf (124 :: r) = ⟨#[]⟩ :: partsOf r := by unfold partsOf; rw [cutAt_cons_eq]; rfl
      rw [e]
      refine ev_pos (by rw [List.length_cons]; omega) (ev_neg (by show ¬ ((0 : Nat) : Int) = 1; omega) (ev_some ?_))
      cases r with
      | nil => rfl
      | cons b r =>
        show _ = (if b = 124 ∧ okKey ((124 : UInt8).toNat : Int) (partsOf r) = true then (((124 : UInt8).toNat : Int), partsOf r, (0 : Int)) else (0, [], 20))
        rw [if_neg (fun h => by rw [show ((124 : UInt8).toNat : Int) = 124 from rfl, okKey_bar] at h; exact absurd h.2 (by simp))]
    · cases r with
      | nil =>
        have e : partsOf [c] = [⟨#[c]⟩] := by unfold partsOf; rw [cutAt_none _ (by simpa using hc)]; rfl
        rw [e]
        refine ev_pos (by simp) (ev_pos rfl (ev_pos hsz (ev_pos (by simp) ?_)))
        rw [hbt]
        refine ev_call (key_some _ _ (by simp)) ?_
        rw [show ([(⟨#[c]⟩ : ByteArray)]).drop 1 = [] from rfl, keyOf_no (okKey_nil _)]
        exact ev_neg (by decide) (ev_some rfl)
      | cons b r =>
        by_cases hb : b = 124
        · subst hb
          have e : partsOf (c :: 124 :: r) = ⟨#[c]⟩ :: partsOf r := by
            have := partsOf_append [c] r
            rw [show [c] ++ 124 :: r = c :: 124 :: r from rfl] at this
            rw [this]
            unfold partsOf
            rw [cutAt_none [c] (by simpa using hc)]
            rfl
          rw [e] at hps ⊢
          refine ev_pos (by rw [List.length_cons]; omega) (ev_pos rfl (ev_pos hsz (ev_pos (by rw [List.length_cons]; omega) ?_)))
          rw [hbt]
          refine ev_call (key_some _ _ (fun p hp => hps p (List.mem_cons_of_mem _ hp))) ?_
          rw [show ((⟨#[c]⟩ : ByteArray) :: partsOf r).drop 1 = partsOf r from rfl]
          cases hk : okKey (c.toNat : Int) (partsOf r) with
          | true =>
            rw [keyOf_yes hk, splitOf_yes c r hk]
            exact ev_pos rfl (ev_some rfl)
          | false =>
            rw [keyOf_no hk, splitOf_no c r hk]
            exact ev_neg (by decide) (ev_some rfl)
        · obtain ⟨u, t, e1, e2⟩ := cutAt_cons_ne hb r
          obtain ⟨u', t', e1', e2'⟩ := cutAt_cons_ne hc (b :: r)
          have e : partsOf (c :: b :: r) = ⟨(c :: b :: u).toArray⟩ :: t.map fun p => ⟨p.toArray⟩ := by
            unfold partsOf
            rw [e2'] 
            rw [e2] at e1'
            simp only [List.cons.injEq] at e1'
            rw [← e1'.1, ← e1'.2]
            rfl
          rw [e]
          refine ev_pos (by rw [List.length_cons]; omega) (ev_neg ?_ (ev_some ?_))
          · show ¬ ((⟨(c :: b :: u).toArray⟩ : ByteArray).size : Int) = 1
            rw [← size_len]
            simp
            omega
          · rw [splitOf_else c b r hb]

theorem extract_one (s : ByteArray) (i : Nat) (h : i < s.data.toList.length) : (s.extract i (i + 1)).data.toList = [s.data.toList[i]] := by
  rw [Lib.extract_data, List.drop_eq_getElem_cons h, show i + 1 - i = 1 by omega]
  rfl
/-- The pieces that are done, the one that is read, and the rest of the text. -/
theorem cut_more (cur : List UInt8) (rest : List UInt8) (hc : ∀ b ∈ cur, b ≠ 124) : ∃ u t, cutAt 124 rest = u :: t ∧ cutAt 124 (cur ++ rest) = (cur ++ u) :: t := by
  induction cur with
  | nil =>
    cases h : cutAt 124 rest with
    | nil => exact absurd h (cutAt_ne _ _)
    | cons u t => exact ⟨u, t, rfl, h⟩
  | cons b cur ih =>
    obtain ⟨u, t, e1, e2⟩ := ih (fun c hc' => hc c (List.mem_cons_of_mem _ hc'))
    obtain ⟨u', t', e1', e2'⟩ := cutAt_cons_ne (hc b (List.mem_cons_self ..)) (cur ++ rest)
    rw [e2] at e1'
    simp only [List.cons.injEq] at e1'
    refine ⟨u, t, e1, ?_⟩
    rw [List.cons_append, e2', ← e1'.1, ← e1'.2]
    rfl
theorem ref_split_loop (s : ByteArray) (hs : s.size ≤ 1000000) (r : List UInt8) (R : Int × List ByteArray × Int)
    (fin : Ev (fun k => (cambistref02_Key.f k (bt s 0) (partsOf r)).bind fun bt209 => (if bt209.2 = 0 then (if bt209.1.toList = s.toList then (some (bt s 0, partsOf r, 0)) else (some (0, ([] : List ByteArray), 20))) else (some (0, ([] : List ByteArray), 20)))) R) :
    ∀ (m i : Nat) (done : List ByteArray) (cur : ByteArray), s.size - i = m → 2 ≤ i → i ≤ s.size → done.length + cur.size ≤ i → (∀ b ∈ cur.data.toList, b ≠ 124) →
    done ++ partsOf (cur.data.toList ++ s.data.toList.drop i) = partsOf r → Ev (fun k => cambistref02_Split.l0 k s done cur (i : Int)) R := by
  intro m
  induction m with
  | zero =>
    intro i done cur hm h2 hi hd hcur hinv
    rw [List.drop_of_length_le (by rw [size_len]; omega), List.append_nil] at hinv
    have e : partsOf cur.data.toList = [cur] := by
      unfold partsOf
      rw [cutAt_none _ hcur]
      simp
    rw [e] at hinv
    refine ev_succ ?_
    simp only [cambistref02_Split.l0]
    refine ev_neg (by omega) (ev_pos (by omega) (ev_opt rfl (ev_pos (by omega) ?_)))
    rw [hinv]
    exact fin
  | succ m ih =>
    intro i done cur hm h2 hi hd hcur hinv
    have hlt : i < s.data.toList.length := by rw [size_len]; omega
    rw [drop_at hlt] at hinv
    refine ev_succ ?_
    simp only [cambistref02_Split.l0]
    refine ev_pos (by omega) (ev_pos (by omega) ?_)
    rw [bt_get s i hlt, wrap_small hi hs]
    by_cases hb : s.data.toList[i] = 124
    · rw [hb] at hinv ⊢
      refine ev_pos rfl (ev_pos (by omega) ?_)
      refine ih (i + 1) (done ++ [cur]) ⟨#[]⟩ (by omega) (by omega) (by omega) ?_ (by simp) ?_
      · rw [List.length_append, List.length_singleton]
        show done.length + 1 + 0 ≤ _
        omega
      · rw [partsOf_append] at hinv
        have e : partsOf cur.data.toList = [cur] := by
          unfold partsOf
          rw [cutAt_none _ hcur]
          simp
        rw [e, ← List.append_assoc] at hinv
        exact hinv
    · have hne : ¬ ((s.data.toList[i].toNat : Int) = 124) := fun h => hb (by
        apply UInt8.toNat_inj.1
        show _ = 124
        omega)
      have hx : ((i : Int)).toNat = i := by omega
      have hy : (((i + 1 : Nat) : Int)).toNat = i + 1 := by omega
      rw [hx, hy]
      have h1 := extract_one s i hlt
      have hsz : (s.extract i (i + 1)).size = 1 := by rw [← size_len, h1]; rfl
      refine ev_neg hne (ev_pos (by omega) (ev_pos (by omega) (ev_pos (by omega) ?_)))
      refine ih (i + 1) done (cur ++ s.extract i (i + 1)) (by omega) (by omega) (by omega) ?_ ?_ ?_
      · rw [ByteArray.size_append, hsz]; omega
      · intro x hx
        rw [ByteArray.data_append, Array.toList_append, h1] at hx
        rcases List.mem_append.1 hx with h | h
        · exact hcur x h
        · rw [List.mem_singleton.1 h]; exact hb
      · rw [ByteArray.data_append, Array.toList_append, h1, List.append_assoc]
        exact hinv
theorem ref_split (s : ByteArray) (hs : s.size ≤ 1000000) : Ev (fun k => cambistref02_Split.f k s) (splitOf s.data.toList) := by
  unfold cambistref02_Split.f
  have hlen : s.data.toList.length ≤ 4294967280 := by rw [size_len]; omega
  by_cases h3 : (s.size : Int) < 3
  · refine ev_pos h3 (ev_some ?_)
    have h3' : s.data.toList.length < 3 := by rw [size_len]; omega
    cases hl : s.data.toList with
    | nil => rfl
    | cons c r =>
      rw [hl] at h3'
      cases r with
      | nil => rfl
      | cons b r =>
        cases r with
        | nil =>
          by_cases hb : b = 124
          · subst hb
            rw [splitOf_no c [] (by
              have : partsOf [] = [⟨#[]⟩] := rfl
              rw [this]
              unfold okKey
              rw [show ([(⟨#[]⟩ : ByteArray)]).all (isPart isSign 16) = false from by decide]
              simp)]
          · rw [splitOf_else c b [] hb]
        | cons d r => simp only [List.length_cons] at h3'; omega
  · refine ev_neg h3 ?_
    obtain ⟨c, b, r, hl⟩ : ∃ c b r, s.data.toList = c :: b :: r := by
      have h3' : 3 ≤ s.data.toList.length := by rw [size_len]; omega
      match hl : s.data.toList, h3' with
      | c :: b :: r, _ => exact ⟨c, b, r, rfl⟩
    have hbt := bt_head s c (b :: r) hl
    refine ref_split_loop s hs r _ ?_ (s.size - 2) 2 [] ⟨#[]⟩ rfl (Nat.le_refl _) (by omega) (by show 0 + 0 ≤ 2; omega) (by simp) (by rw [hl]; rfl)
    rw [hbt, hl]
    have hps := parts_small r (by rw [hl] at hlen; simp at hlen; omega)
    refine ev_call (ref_key _ _ hps) ?_
    cases hk : okKey (c.toNat : Int) (partsOf r) with
    | true =>
      rw [keyOf_yes hk]
      refine ev_pos rfl ?_
      have e : (⟨(keyData (spaceByte (c.toNat : Int)) (partsOf r)).toArray⟩ : ByteArray).toList = c :: 124 :: r := by
        rw [toList_data]
        show keyData _ _ = _
        rw [spaceByte_toNat]
        unfold keyData
        rw [barred_partsOf]
      rw [e, toList_data s, hl]
      by_cases hb : b = 124
      · subst hb
        rw [splitOf_yes c r hk]
        exact ev_pos rfl (ev_some rfl)
      · rw [splitOf_else c b r hb]
        exact ev_neg (by simp [Ne.symm hb]) (ev_some rfl)
    | false =>
      rw [keyOf_no hk]
      refine ev_neg (by decide) (ev_some ?_)
      by_cases hb : b = 124
      · subst hb
        rw [splitOf_no c r hk]
      · rw [splitOf_else c b r hb]
end Go.Proofs.YtalepbkdakjhdaaDoor.E
