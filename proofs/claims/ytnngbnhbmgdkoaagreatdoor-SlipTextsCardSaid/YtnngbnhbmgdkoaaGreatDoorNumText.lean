/- Numbers in tens, as texts and back, in plain words; and that the library's words say the same. -/
import Derived.Lib.ItoaNum
import Derived.Lib.ParseIntB
namespace Go.Proofs.YtnngbnhbmgdkoaaGreatDoor.E
open Go.Lib

/-- The digits of n in tens, at most k of them. -/
def decRec : Nat → Nat → List UInt8
  | 0, _ => []
  | k + 1, n => if n < 10 then [UInt8.ofNat (48 + n)] else decRec k (n / 10) ++ [UInt8.ofNat (48 + n % 10)]
def decText (n : Nat) : List UInt8 := decRec 20 n
def intText (n : Int) : List UInt8 := if n < 0 then 45 :: decText n.natAbs else decText n.toNat
theorem decRec_eq : ∀ k n, n < 10 ^ k → 0 < k → decRec k n = decDigits n := by
  intro k
  induction k with
  | zero => intro n _ h; omega
  | succ k ih =>
    intro n hn _
    rw [decRec]
    by_cases h : n < 10
    · rw [if_pos h, decDigits, dif_pos h]
    · rw [if_neg h, decDigits, dif_neg h]
      have hk : 0 < k := by
        rcases Nat.eq_zero_or_pos k with h0 | h0
        · subst h0; simp at hn; omega
        · exact h0
      rw [ih (n / 10) (by rw [Nat.pow_succ] at hn; omega) hk]
theorem decText_eq (n : Nat) (h : n < 100000000000000000000) : decText n = decDigits n := decRec_eq 20 n h (by decide)
def in64 (n : Int) : Prop := -9223372036854775808 ≤ n ∧ n ≤ 9223372036854775807
instance (n : Int) : Decidable (in64 n) := inferInstanceAs (Decidable (_ ∧ _))
theorem intText_itoa {n : Int} (h : in64 n) : intText n = itoa n := by
  unfold intText itoa
  have := h.1
  have := h.2
  rw [decText_eq n.natAbs (by omega), decText_eq n.toNat (by omega)]

/-! ### Back -/
def isTen (c : UInt8) : Prop := 48 ≤ c.toNat ∧ c.toNat ≤ 57
def foldTen (acc : Nat) (l : List UInt8) : Nat := l.foldl (fun a c => a * 10 + (c.toNat - 48)) acc
theorem foldTen_cons (acc : Nat) (c : UInt8) (l : List UInt8) : foldTen acc (c :: l) = foldTen (acc * 10 + (c.toNat - 48)) l := by simp only [foldTen, List.foldl_cons]
theorem foldTen_snoc (acc : Nat) (l : List UInt8) (c : UInt8) : foldTen acc (l ++ [c]) = foldTen acc l * 10 + (c.toNat - 48) := by simp [foldTen]
theorem foldTen_le (l : List UInt8) : ∀ acc, acc ≤ foldTen acc l := by
  induction l with
  | nil => intro acc; exact Nat.le_refl _
  | cons c l ih =>
    intro acc
    rw [foldTen_cons]
    have := ih (acc * 10 + (c.toNat - 48))
    omega
theorem sign_ten (n : Nat) (h : n < 10) : (UInt8.ofNat (48 + n)).toNat = 48 + n := by
  rw [UInt8.toNat_ofNat']
  omega
theorem decRec_facts : ∀ k n, n < 10 ^ k → 0 < k → (∀ c ∈ decRec k n, isTen c) ∧ foldTen 0 (decRec k n) = n ∧ decRec k n ≠ [] ∧ (decRec k n).length ≤ k := by
  intro k
  induction k with
  | zero => intro n _ h; omega
  | succ k ih =>
    intro n hn _
    rw [decRec]
    by_cases h : n < 10
    · rw [if_pos h]
      refine ⟨fun c hc => ?_, ?_, by simp, by simp⟩
      · rw [List.mem_singleton.1 hc]
        unfold isTen
        rw [sign_ten n h]
        omega
      · show 0 * 10 + ((UInt8.ofNat (48 + n)).toNat - 48) = n
        rw [sign_ten n h]
        omega
    · rw [if_neg h]
      have hk : 0 < k := by
        rcases Nat.eq_zero_or_pos k with h0 | h0
        · subst h0; simp at hn; omega
        · exact h0
      obtain ⟨h1, h2, h3, h4⟩ := ih (n / 10) (by rw [Nat.pow_succ] at hn; omega) hk
      refine ⟨fun c hc => ?_, ?_, by simp, by simp; omega⟩
      · rcases List.mem_append.1 hc with hc | hc
        · exact h1 c hc
        · rw [List.mem_singleton.1 hc]
          unfold isTen
          rw [sign_ten _ (Nat.mod_lt _ (by decide))]
          omega
      · rw [foldTen_snoc, h2, sign_ten _ (Nat.mod_lt _ (by decide))]
        omega
theorem decText_facts (n : Nat) (h : n < 100000000000000000000) : (∀ c ∈ decText n, isTen c) ∧ foldTen 0 (decText n) = n ∧ decText n ≠ [] ∧ (decText n).length ≤ 20 := decRec_facts 20 n h (by decide)
theorem parse_digits (M : Nat) (hM : M ≤ 18446744073709551615) : ∀ (l : List UInt8) (acc : Nat), (∀ c ∈ l, isTen c) → foldTen acc l ≤ M → parseUintM M acc l = .ok (foldTen acc l) := by
  intro l
  induction l with
  | nil => intro acc _ _; rfl
  | cons c l ih =>
    intro acc hc hf
    have h1 := hc c (List.mem_cons_self ..)
    rw [foldTen_cons] at hf ⊢
    have h2 := foldTen_le l (acc * 10 + (c.toNat - 48))
    unfold isTen at h1
    rw [parseUintM, if_pos h1, if_neg (by omega), if_neg (by omega)]
    exact ih _ (fun d hd => hc d (List.mem_cons_of_mem _ hd)) hf
theorem parse_intText {v : Int} (h : in64 v) : parseIntB 64 (intText v) = .ok v := by
  have h0 := h.1
  have h1 := h.2
  unfold intText
  by_cases hv : v < 0
  · rw [if_pos hv]
    obtain ⟨f1, f2, f3, _⟩ := decText_facts v.natAbs (by omega)
    have e : parseUintB 64 (decText v.natAbs) = .ok v.natAbs := by
      unfold parseUintB
      rw [if_neg f3, parse_digits _ (by decide) _ _ f1 (by rw [f2]; omega), f2]
    unfold parseIntB
    simp only
    rw [if_pos (by decide), e]
    simp only
    rw [if_neg (by simp), if_neg (by simp; omega), if_pos (by decide)]
    congr 1
    omega
  · rw [if_neg hv]
    obtain ⟨f1, f2, f3, _⟩ := decText_facts v.toNat (by omega)
    cases hd : decText v.toNat with
    | nil => exact absurd hd f3
    | cons c r =>
      have hc := f1 c (by rw [hd]; exact List.mem_cons_self ..)
      unfold isTen at hc
      have e : parseUintB 64 (c :: r) = .ok v.toNat := by
        rw [← hd]
        unfold parseUintB
        rw [if_neg f3, parse_digits _ (by decide) _ _ f1 (by rw [f2]; omega), f2]
      unfold parseIntB
      simp only
      rw [if_neg (by omega), e]
      simp only
      rw [if_neg (by omega), if_neg (by omega), if_neg (by omega)]
      congr 1
      omega
theorem parse_range {l : List UInt8} {v : Int} (h : parseIntB 64 l = .ok v) : in64 v := by
  unfold parseIntB at h
  unfold in64
  cases l with
  | nil => cases h
  | cons c r =>
    simp only at h
    split at h
    · cases h
    · cases h
    · rename_i u _
      split at h
      · cases h
      · split at h
        · cases h
        · rename_i h1 h2
          injection h with h
          subst h
          split
          · rename_i hn
            have : ¬ (2 ^ (64 - 1) < u) := fun e => h2 ⟨hn, e⟩
            have e63 : (2 : Nat) ^ (64 - 1) = 9223372036854775808 := by decide
            omega
          · rename_i hn
            have : ¬ (2 ^ (64 - 1) ≤ u) := fun e => h1 ⟨hn, e⟩
            have e63 : (2 : Nat) ^ (64 - 1) = 9223372036854775808 := by decide
            omega
/-- The amount that a text is; 11: none. -/
def parseOf (l : List UInt8) : Int × Int := match parseIntB 64 l with
  | .ok v => if intText v = l then (v, 0) else (0, 11)
  | _ => (0, 11)
theorem parseOf_text {v : Int} (h : in64 v) : parseOf (intText v) = (v, 0) := by
  unfold parseOf
  rw [parse_intText h]
  exact if_pos rfl
theorem parseOf_cases (l : List UInt8) : (∃ v, in64 v ∧ intText v = l ∧ parseOf l = (v, 0)) ∨ ((∀ v, in64 v → intText v ≠ l) ∧ parseOf l = (0, 11)) := by
  by_cases h : ∃ v, in64 v ∧ intText v = l
  · obtain ⟨v, hv, rfl⟩ := h
    exact .inl ⟨v, hv, rfl, parseOf_text hv⟩
  · refine .inr ⟨fun v hv e => h ⟨v, hv, e⟩, ?_⟩
    unfold parseOf
    split
    · rename_i v hp
      rw [if_neg (fun e => h ⟨v, parse_range hp, e⟩)]
    · rfl
def coin_Text.f (a0 : Int) : Option ByteArray := if in64 a0 then some ⟨(intText a0).toArray⟩ else none
def coin_Parse.f (a0 : ByteArray) : Option (Int × Int) := if a0.size ≤ 140737488351232 then some (parseOf a0.data.toList) else none
end Go.Proofs.YtnngbnhbmgdkoaaGreatDoor.E
