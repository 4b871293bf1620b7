/- Texts that are cut at one byte: strings.Split at a separator of one byte, in plain words. -/
import Derived.Lib.Split
namespace Go.Proofs.YtnngbnhbmgdkoaaGreatDoor.E
open Go.Lib

/-- The pieces between the bytes c: one more than there are such bytes. -/
def cutAt (c : UInt8) : List UInt8 → List (List UInt8)
  | [] => [[]]
  | b :: l => if b = c then [] :: cutAt c l else match cutAt c l with
    | [] => [[b]]
    | h :: t => (b :: h) :: t

theorem cutAt_ne (c : UInt8) (l : List UInt8) : cutAt c l ≠ [] := by
  cases l with
  | nil => simp [cutAt]
  | cons b l =>
    unfold cutAt
    split
    · simp
    · split <;> simp
theorem cutAt_cons_eq (c : UInt8) (l : List UInt8) : cutAt c (c :: l) = [] :: cutAt c l := by simp [cutAt]
theorem cutAt_cons_ne {b c : UInt8} (h : b ≠ c) (l : List UInt8) : ∃ x t, cutAt c l = x :: t ∧ cutAt c (b :: l) = (b :: x) :: t := by
  obtain ⟨x, t, e⟩ : ∃ x t, cutAt c l = x :: t := by
    cases hc : cutAt c l with
    | nil => exact absurd hc (cutAt_ne c l)
    | cons x t => exact ⟨x, t, rfl⟩
  refine ⟨x, t, e, ?_⟩
  rw [cutAt, if_neg h, e]

theorem index_one_eq (c : UInt8) (l : List UInt8) : index (c :: l) [c] = 0 := by simp [index]
theorem index_one_ne {b c : UInt8} (h : b ≠ c) (l : List UInt8) : index (b :: l) [c] = if index l [c] = -1 then -1 else index l [c] + 1 := by
  have : ([c] : List UInt8).isPrefixOf (b :: l) = false := by simp [List.isPrefixOf, Ne.symm h]
  rw [index, if_neg (by rw [this]; simp)]
  simp only [beq_iff_eq]

theorem split_one (c : UInt8) : ∀ l : List UInt8, splitK [c] 0 (count l [c]) l = cutAt c l := by
  intro l
  induction l with
  | nil => rw [count_miss (by simp [index])]; rfl
  | cons b t ih =>
    by_cases h : b = c
    · subst h
      have hi := index_one_eq b t
      rw [count_hit (i := 0) (by simp) (by simpa using hi), cutAt_cons_eq, Nat.add_comm 1, splitK, hi]
      rw [if_neg (by decide)]
      show List.take 0 (b :: t) :: splitK [b] 0 (count t [b]) t = _
      rw [ih]
      rfl
    · obtain ⟨x, r, e1, e2⟩ := cutAt_cons_ne h t
      have hi := index_one_ne h t
      rw [e2]
      rw [e1] at ih
      by_cases hm : index t [c] = -1
      · rw [if_pos hm] at hi
        rw [count_miss hm] at ih
        rw [count_miss hi]
        simp only [splitK, List.cons.injEq] at ih ⊢
        exact ⟨⟨trivial, ih.1⟩, ih.2⟩
      · rw [if_neg hm] at hi
        have hg := index_ge t [c]
        obtain ⟨i, hi'⟩ : ∃ i : Nat, index t [c] = i := ⟨(index t [c]).toNat, by omega⟩
        rw [hi'] at hi hm
        rw [count_hit (i := i) (by simp) hi', Nat.add_comm 1, splitK, hi'] at ih
        rw [count_hit (i := i + 1) (by simp) (by rw [hi]; rfl), Nat.add_comm 1, splitK, hi]
        have h1 : ((i : Int) == -1) = false := by rw [beq_eq_false_iff_ne]; omega
        have h2 : ((i : Int) + 1 == -1) = false := by rw [beq_eq_false_iff_ne]; omega
        have h3 : ((i : Int) + 1).toNat = i + 1 := by omega
        simp only [h1, h2, h3, Bool.false_eq_true, if_false, Int.toNat_natCast, List.length_singleton, Nat.add_zero, List.take_succ_cons, List.drop_succ_cons, List.cons.injEq] at ih ⊢
        exact ⟨⟨trivial, ih.1⟩, ih.2⟩

/-- The same of texts. -/
def splitOn (s : ByteArray) (c : UInt8) : List ByteArray := (cutAt c s.data.toList).map fun l => ⟨l.toArray⟩
theorem map_data_inj : ∀ {l m : List ByteArray}, l.map (·.data.toList) = m.map (·.data.toList) → l = m
  | [], [], _ => rfl
  | [], _ :: _, h => by simp at h
  | _ :: _, [], h => by simp at h
  | a :: l, b :: m, h => by
    simp only [List.map_cons, List.cons.injEq] at h
    have e : a = b := by
      cases a with | mk x => cases b with | mk y => simpa using h.1
    rw [e, map_data_inj h.2]
theorem splitB_one (s : ByteArray) (c : UInt8) : splitB ⟨#[c]⟩ 0 (countB s ⟨#[c]⟩) s = splitOn s c := by
  apply map_data_inj
  rw [splitB_data]
  have e : (splitOn s c).map (·.data.toList) = cutAt c s.data.toList := by simp [splitOn, List.map_map, Function.comp_def]
  rw [e]
  exact split_one c s.data.toList
theorem length_splitK (c : UInt8) : ∀ (k : Nat) (l : List UInt8), count l [c] = k → (splitK [c] 0 k l).length = k + 1 := by
  intro k
  induction k with
  | zero => intro l _; rfl
  | succ k ih =>
    intro l h
    have hg := index_ge l [c]
    by_cases hm : index l [c] = -1
    · rw [count_miss hm] at h; omega
    · obtain ⟨i, hi'⟩ : ∃ i : Nat, index l [c] = i := ⟨(index l [c]).toNat, by omega⟩
      rw [count_hit (i := i) (by simp) hi'] at h
      have h1 : ((i : Int) == -1) = false := by rw [beq_eq_false_iff_ne]; omega
      rw [splitK, hi']
      simp only [h1, Bool.false_eq_true, if_false, List.length_cons, Int.toNat_natCast]
      rw [ih _ (by simpa using (by omega : count (l.drop (i + [c].length)) [c] = k))]
theorem length_splitOn (s : ByteArray) (c : UInt8) : (splitOn s c).length = countB s ⟨#[c]⟩ + 1 := by
  have : (splitOn s c).length = (cutAt c s.data.toList).length := by simp [splitOn]
  rw [this, ← split_one, length_splitK c _ _ rfl]
end Go.Proofs.YtnngbnhbmgdkoaaGreatDoor.E
