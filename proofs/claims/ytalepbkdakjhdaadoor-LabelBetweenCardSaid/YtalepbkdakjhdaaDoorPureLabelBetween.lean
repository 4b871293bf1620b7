/- The pure statement of LabelBetween: a key with more parts stands between the key's bar and its end, and no other. -/
import Derived.Test.YtalepbkdakjhdaaDoorPureLabelBack
import Derived.Test.YtalepbkdakjhdaaDoorPx6
namespace Go.Proofs.YtalepbkdakjhdaaDoor.Pure
open Go.RowKit Go.Proofs.YtalepbkdakjhdaaDoor.E Go.Proofs.YtalepbkdakjhdaaDoor.P Go.Proofs.YtalepbkdakjhdaaDoorW.PrintWords Go.Proofs.YtalepbkdakjhdaaDoorW.PrintLast
theorem less_pre (x y z : List UInt8) : Op.bytesLess (x ++ y) (x ++ z) = Op.bytesLess y z := by
  induction x with
  | nil => rfl
  | cons a x ih =>
    simp only [List.cons_append, Op.bytesLess, ih]
    have : decide (a < a) = false := decide_eq_false (by simp [UInt8.lt_irrefl])
    rw [this, beq_self_eq_true, Bool.false_or, Bool.true_and]
theorem less_nil (y : List UInt8) : Op.bytesLess y [] = false := by cases y <;> rfl
theorem less_self_more (x y : List UInt8) : Op.bytesLess (x ++ y) x = false := by
  have := less_pre x y []
  rw [List.append_nil] at this
  rw [this, less_nil]
/-- What stands between a text's bar and its end begins with it and a bar, and has more. -/
theorem between_iff (x : List UInt8) : ∀ o : List UInt8, ((!(Op.bytesLess o (x ++ [124]) || o == x ++ [124])) && Op.bytesLess o (x ++ [125])) = true ↔ ∃ t, t ≠ [] ∧ o = x ++ 124 :: t := by
  induction x with
  | nil =>
    intro o
    cases o with
    | nil => simp [Op.bytesLess]
    | cons b o =>
      simp only [List.nil_append, Op.bytesLess, less_nil, Bool.and_false, Bool.or_false]
      constructor
      · intro h
        simp only [Bool.and_eq_true, Bool.not_eq_true', Bool.or_eq_false_iff, decide_eq_true_eq, decide_eq_false_iff_not] at h
        obtain ⟨⟨h1, h2⟩, h3⟩ := h
        have hb : b = 124 := by
          apply UInt8.toNat_inj.1
          have h1' : ¬ b.toNat < 124 := fun h => h1 (UInt8.lt_iff_toNat_lt.2 h)
          have h3' : b.toNat < 125 := UInt8.lt_iff_toNat_lt.1 h3
          show b.toNat = 124
          omega
        subst hb
        refine ⟨o, ?_, rfl⟩
        rintro rfl
        simp at h2
      · rintro ⟨t, ht, h⟩
        injection h with h1 h2
        subst h1; subst h2
        have e1 : decide ((124 : UInt8) < 124) = false := by decide
        have e2 : decide ((124 : UInt8) < 125) = true := by decide
        have e3 : ((124 : UInt8) :: o == [124]) = false := by
          rw [beq_eq_false_iff_ne]
          intro e
          injection e with _ e
          exact ht e
        rw [e1, e2, e3]
        rfl
  | cons a x ih =>
    intro o
    cases o with
    | nil => simp [Op.bytesLess]
    | cons b o =>
      simp only [List.cons_append, Op.bytesLess]
      by_cases hab : b = a
      · subst hab
        have e1 : decide (b < b) = false := decide_eq_false (by simp [UInt8.lt_irrefl])
        have e2 : (b :: o == b :: (x ++ [124])) = (o == x ++ [124]) := by
          rw [Bool.eq_iff_iff, beq_iff_eq, beq_iff_eq, List.cons.injEq]
          exact ⟨fun h => h.2, fun h => ⟨rfl, h⟩⟩
        rw [e1, beq_self_eq_true, Bool.false_or, Bool.true_and, Bool.false_or, Bool.true_and, e2, ih o]
        constructor
        · rintro ⟨t, ht, rfl⟩; exact ⟨t, ht, rfl⟩
        · rintro ⟨t, ht, h⟩
          injection h with _ h
          exact ⟨t, ht, h⟩
      · have e1 : (b == a) = false := beq_eq_false_iff_ne.2 hab
        have e2 : (b :: o == a :: (x ++ [124])) = false := by
          rw [beq_eq_false_iff_ne]
          intro e
          injection e with e _
          exact hab e
        rw [e1, e2]
        constructor
        · intro h
          simp at h
        · rintro ⟨t, _, h⟩
          injection h with h _
          exact absurd h hab
theorem key_more {a : Int} {l m : List ByteArray} : keyData (spaceByte a) (l ++ m) = keyData (spaceByte a) l ++ barred m := by
  unfold keyData
  rw [barred_append]
  rfl
/-- One key's text begins with the other's and a bar just where its parts begin with the other's parts. -/
theorem begins_iff {a : Int} {l o : List ByteArray} (hl : okKey a l = true) (ho : okKey a o = true) :
    (∃ t, t ≠ [] ∧ keyData (spaceByte a) o = keyData (spaceByte a) l ++ 124 :: t) ↔ (o.take l.length = l ∧ l.length < o.length) := by
  obtain ⟨_, _, l1, _, l5⟩ := okKey_parts hl
  obtain ⟨_, _, o1, _, o5⟩ := okKey_parts ho
  obtain ⟨rl, el1, el2⟩ := partsOf_barred l (by intro e; rw [e] at l1; simp at l1) l5
  obtain ⟨ro, eo1, eo2⟩ := partsOf_barred o (by intro e; rw [e] at o1; simp at o1) o5
  constructor
  · rintro ⟨t, _, h⟩
    unfold keyData at h
    rw [el1, eo1] at h
    simp only [List.cons_append, List.cons.injEq, true_and] at h
    have : o = l ++ partsOf t := by rw [← eo2, ← el2, ← partsOf_append, h]
    have hne : partsOf t ≠ [] := by
      intro e
      have := barred_partsOf t
      rw [e] at this
      simp [barred] at this
    rw [this]
    refine ⟨by simp, ?_⟩
    rw [List.length_append]
    have := List.length_pos_iff.2 hne
    omega
  · rintro ⟨h1, h2⟩
    have e : o = l ++ o.drop l.length := by
      conv => lhs; rw [← List.take_append_drop l.length o, h1]
    cases hd : o.drop l.length with
    | nil =>
      have := congrArg List.length hd
      rw [List.length_drop] at this
      simp at this
      omega
    | cons p r =>
      rw [hd] at e
      rw [e, key_more, barred_cons]
      refine ⟨_, ?_, rfl⟩
      have hp := (isPart_size (o5 p (by rw [e]; simp))).1
      intro hn
      have := congrArg List.length hn
      rw [List.length_append, size_len, List.length_nil] at this
      omega
theorem end_of (s : ByteArray) (hs : s.size ≤ 1000) : label_End.f s = some (s ++ ⟨#[125]⟩) := by
  unfold label_End.f
  rw [if_pos (by omega)]
theorem key_size {a : Int} {l : List ByteArray} (h : okKey a l = true) : (⟨(keyData (spaceByte a) l).toArray⟩ : ByteArray).size ≤ 69 := by
  rw [← size_len]
  exact keyData_length h
theorem between_last (a : Int) (l o : List ByteArray) (hl : okKey a l = true) (ho : okKey a o = true) (hn : o.length ≤ 10) : Ev (fun k => cambistlaw02_LabelBetween.j2 k l o true ⟨(keyData (spaceByte a) l).toArray⟩ ⟨(keyData (spaceByte a) o).toArray⟩ (decide ((o.length : Int) < (l.length : Int)))) true := by
  have hk := key_size hl
  refine ev_succ ?_
  simp only [cambistlaw02_LabelBetween.j2]
  by_cases hlt : (o.length : Int) < (l.length : Int)
  · rw [decide_eq_true hlt]
    exact ev_pos rfl (ev_some rfl)
  · rw [decide_eq_false hlt]
    refine ev_neg (by decide) (ev_pos (by omega) (ev_pos (by omega) ?_))
    rw [Int.toNat_natCast]
    refine ev_call (ref_same _ _ (by rw [List.length_take]; omega)) ?_
    have hb := begins_iff hl ho
    have hi := between_iff (keyData (spaceByte a) l) (keyData (spaceByte a) o)
    rw [hb] at hi
    have d1 : ((⟨(keyData (spaceByte a) l).toArray⟩ : ByteArray) ++ (⟨#[124]⟩ : ByteArray)).toList = keyData (spaceByte a) l ++ [124] := by rw [toList_data]; simp
    have d2 : ((⟨(keyData (spaceByte a) l).toArray⟩ : ByteArray) ++ (⟨#[125]⟩ : ByteArray)).toList = keyData (spaceByte a) l ++ [125] := by rw [toList_data]; simp
    have d3 : (⟨(keyData (spaceByte a) o).toArray⟩ : ByteArray).toList = keyData (spaceByte a) o := by rw [toList_data]
    have hend := end_of ⟨(keyData (spaceByte a) l).toArray⟩ (by omega)
    rw [d1, d3]
    generalize hA : (Op.bytesLess (keyData (spaceByte a) o) (keyData (spaceByte a) l ++ [124]) || keyData (spaceByte a) o == keyData (spaceByte a) l ++ [124]) = A at hi ⊢
    generalize hB : Op.bytesLess (keyData (spaceByte a) o) (keyData (spaceByte a) l ++ [125]) = B at hi
    have hB' : Op.bytesLess (keyData (spaceByte a) o) ((⟨(keyData (spaceByte a) l).toArray⟩ : ByteArray) ++ (⟨#[125]⟩ : ByteArray)).toList = B := by rw [d2, hB]
    have hlen : decide ((o.length : Int) > (l.length : Int)) = decide (l.length < o.length) := by rw [Bool.eq_iff_iff]; simp
    rw [hlen]
    have hsz : (⟨(keyData (spaceByte a) l).toArray⟩ : ByteArray).size + 1 ≤ 9223372036854775807 := by omega
    by_cases hs : o.take l.length = l
    · refine ev_pos (decide_eq_true hs) (ev_pos trivial (ev_pos hsz ?_))
      cases A with
      | true =>
        refine ev_pos rfl (ev_some ?_)
        have : ¬ l.length < o.length := fun h => by
          have := hi.2 ⟨hs, h⟩
          simp at this
        rw [decide_eq_false this]
        rfl
      | false =>
        refine ev_neg (by decide) (ev_opt hend (ev_some ?_))
        rw [hB', beq_iff_eq, Bool.eq_iff_iff, decide_eq_true_eq]
        rw [Bool.not_false, Bool.true_and] at hi
        exact hi.trans ⟨fun h => h.2, fun h => ⟨hs, h⟩⟩
    · refine ev_neg (by simpa using hs) (ev_pos trivial (ev_pos hsz ?_))
      cases A with
      | true => exact ev_pos rfl (ev_some rfl)
      | false =>
        refine ev_neg (by decide) (ev_opt hend (ev_some ?_))
        rw [Bool.not_false, Bool.true_and] at hi
        have : B = false := by
          cases B with
          | false => rfl
          | true => exact absurd (hi.1 rfl).1 hs
        rw [hB', this]
        rfl
theorem between_mid (a : Int) (l o : List ByteArray) (hl : okKey a l = true) (hn : o.length ≤ 10) : Ev (fun k => cambistlaw02_LabelBetween.j1 k l o true ⟨(keyData (spaceByte a) l).toArray⟩ (E.keyOf a o).1 (E.keyOf a o).2 false) true := by
  refine ev_succ ?_
  simp only [cambistlaw02_LabelBetween.j1]
  refine ev_neg (by decide) ?_
  cases ho : okKey a o with
  | true =>
    rw [keyOf_yes ho]
    exact ev_pos rfl (between_last a l o hl ho hn)
  | false =>
    rw [keyOf_no ho]
    refine ev_neg (by decide) (ev_succ ?_)
    simp only [cambistlaw02_LabelBetween.j2]
    exact ev_pos trivial (ev_some rfl)
theorem LabelBetween (a0 : Int) (_g0 : (Lit.int .u8 a0).wf = true) (l1 : List ByteArray) (g1 : (∀ p ∈ l1, p.size ≤ lim) ∧ l1.length * Tryd.prog.bytesOf 9 ≤ lim) (s : ByteArray) (g2 : s.size ≤ lim) (l3 : List ByteArray) (g3 : (∀ p ∈ l3, p.size ≤ lim) ∧ l3.length * Tryd.prog.bytesOf 9 ≤ lim) : ∃ k, cambistlaw02_LabelBetween.f k a0 l1 s l3 = some true := by
  refine Ev.rounds (g := fun k => cambistlaw02_LabelBetween.f k a0 l1 s l3) ?_
  simp only [cambistlaw02_LabelBetween.f]
  refine ev_call awake_ev ?_
  have out : Ev (fun k => cambistlaw02_LabelBetween.j0 k a0 l1 s l3 true true) true := by
    refine ev_succ ?_
    simp only [cambistlaw02_LabelBetween.j0]
    exact ev_pos trivial (ev_some rfl)
  by_cases h10 : (l1.length : Int) > 10
  · exact ev_pos h10 out
  refine ev_neg h10 ?_
  by_cases h10' : (l3.length : Int) > 10
  · exact ev_pos h10' out
  refine ev_neg h10' ?_
  by_cases h100 : (s.size : Int) > 100
  · rw [decide_eq_true h100]; exact out
  rw [decide_eq_false h100]
  refine ev_succ ?_
  simp only [cambistlaw02_LabelBetween.j0]
  have g1' : ∀ p ∈ l1 ++ [s], p.size ≤ 140737488351232 := fun p hp => by
    rcases List.mem_append.1 hp with h | h
    · exact g1.1 p h
    · rw [List.mem_singleton.1 h]; exact g2
  refine ev_neg (by decide) (ev_call (key_some a0 l1 g1.1) (ev_opt rfl (ev_pos (by simp only [List.length_nil]; omega) (ev_opt rfl (ev_pos (by simp only [List.nil_append]; omega) ?_)))))
  rw [List.nil_append]
  refine ev_call (key_some a0 _ g1') (ev_call (key_some a0 l3 g3.1) ?_)
  cases hk : okKey a0 l1 with
  | false =>
    rw [keyOf_no hk]
    exact ev_neg (by decide) (ev_some rfl)
  | true =>
    have hsz := key_size hk
    rw [keyOf_yes hk]
    refine ev_pos rfl ?_
    cases hm : okKey a0 (l1 ++ [s]) with
    | false =>
      rw [keyOf_no hm]
      exact ev_neg (by decide) (between_mid a0 l1 l3 hk (by omega))
    | true =>
      rw [keyOf_yes hm]
      refine ev_pos rfl ?_
      have d0 : (⟨(keyData (spaceByte a0) l1).toArray⟩ : ByteArray).toList = keyData (spaceByte a0) l1 := by rw [toList_data]
      have d1 : (⟨(keyData (spaceByte a0) (l1 ++ [s])).toArray⟩ : ByteArray).toList = keyData (spaceByte a0) l1 ++ 124 :: s.data.toList := by
        rw [toList_data]
        show keyData _ _ = _
        rw [key_more]
        simp [barred]
      have d2 : ((⟨(keyData (spaceByte a0) l1).toArray⟩ : ByteArray) ++ (⟨#[124]⟩ : ByteArray)).toList = keyData (spaceByte a0) l1 ++ [124] := by rw [toList_data]; simp
      have d3 : ((⟨(keyData (spaceByte a0) l1).toArray⟩ : ByteArray) ++ (⟨#[125]⟩ : ByteArray)).toList = keyData (spaceByte a0) l1 ++ [125] := by rw [toList_data]; simp
      have n1 : (keyData (spaceByte a0) l1 ++ 124 :: s.data.toList == keyData (spaceByte a0) l1) = false := by
        rw [beq_eq_false_iff_ne]
        intro e
        have := congrArg List.length e
        simp at this
      rw [d1, d0, less_self_more, n1]
      refine ev_neg (by decide) (ev_opt (end_of ⟨(keyData (spaceByte a0) l1).toArray⟩ (by omega)) ?_)
      rw [d3, less_pre]
      refine ev_pos (by simp [Op.bytesLess]) (ev_pos (by show (⟨(keyData (spaceByte a0) l1).toArray⟩ : ByteArray).size + 1 ≤ _; omega) ?_)
      have e124 : Op.bytesLess (124 :: s.data.toList) [124] = false := by
        simp only [Op.bytesLess, less_nil, Bool.and_false, Bool.or_false]
        decide
      rw [d2, less_pre, e124]
      exact between_mid a0 l1 l3 hk (by omega)
end Go.Proofs.YtalepbkdakjhdaaDoor.Pure
