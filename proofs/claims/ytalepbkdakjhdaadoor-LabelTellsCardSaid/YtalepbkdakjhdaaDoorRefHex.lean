/- The document's answers of layer 2 to numbers in sixteens. -/
import Derived.Test.YtalepbkdakjhdaaDoorHex
import Derived.Test.YtalepbkdakjhdaaDoorWMore
import Derived.Test.YtalepbkdakjhdaaDoorPx3
import Derived.Test.YtalepbkdakjhdaaDoorPx3
namespace Go.Proofs.YtalepbkdakjhdaaDoor.E
open Go.RowKit Go.Proofs.YtalepbkdakjhdaaDoor.P Go.Proofs.YtalepbkdakjhdaaDoorW.PrintWords Go.Proofs.YtalepbkdakjhdaaDoorW.PrintLast Go.Proofs.YtalepbkdakjhdaaDoorW.PrintMore

theorem signs_at : ∀ d : Fin 16, strOfNums [bt (⟨#[48, 49, 50, 51, 52, 53, 54, 55, 56, 57, 97, 98, 99, 100, 101, 102]⟩ : ByteArray) (d.val : Int)] = ⟨#[(hexSign d.val).toUInt8]⟩ := by decide +kernel
theorem strOf_sign (d : Nat) (h : d < 16) : strOfNums [bt (⟨#[48, 49, 50, 51, 52, 53, 54, 55, 56, 57, 97, 98, 99, 100, 101, 102]⟩ : ByteArray) (d : Int)] = ⟨#[(hexSign d).toUInt8]⟩ := signs_at ⟨d, h⟩
theorem shift_digit (n j : Nat) (hn : n < 18446744073709551616) (hj : j < 16) : Go.bits .and .u64 (shr .u64 (n : Int) (IntKind.u64.wrap (wrap64 (4 * (j : Int))))) 15 = ((n / 16 ^ j % 16 : Nat) : Int) := by
  rw [wrap_in (by omega) (by omega), IntWalk.u64_in _ (by omega)]
  unfold shr
  rw [show (4 * (j : Int)).toNat = 4 * j by omega, Nat.min_eq_left (by simp [IntKind.bits]; omega)]
  exact bits_digit n j hn
theorem ref_digits_loop (n : Nat) (hn : n < 18446744073709551616) : ∀ (j : Nat) (out : ByteArray), j ≤ 16 → out.size + j = 16 → Ev (fun k => cambistref02_Digits.l0 k (n : Int) out ((j : Int) - 1)) (out ++ ⟨(digitsRec j n).toArray⟩) := by
  intro j
  induction j with
  | zero =>
    intro out _ _
    refine ev_succ ?_
    simp only [cambistref02_Digits.l0]
    refine ev_neg (by omega) (ev_some ?_)
    apply text_ext
    simp [digitsRec]
  | succ j ih =>
    intro out hj hs
    have hd : n / 16 ^ j % 16 < 16 := Nat.mod_lt _ (by decide)
    refine ev_succ ?_
    simp only [cambistref02_Digits.l0]
    rw [show ((j + 1 : Nat) : Int) - 1 = (j : Int) by omega, shift_digit n j hn (by omega)]
    refine ev_pos (by omega) (ev_pos ?_ (ev_pos (by omega) (ev_pos (by omega) (ev_opt rfl ?_))))
    · rw [wrap_in (by omega) (by omega), IntWalk.u64_in _ (by omega)]; omega
    rw [strOf_sign _ hd]
    refine ev_pos ?_ ?_
    · show out.size + 1 ≤ _
      omega
    · rw [wrap_in (by omega) (by omega)]
      refine ev_eq ?_ (ih (out ++ ⟨#[(hexSign (n / 16 ^ j % 16)).toUInt8]⟩) (by omega) (by rw [ByteArray.size_append]; show out.size + 1 + j = 16; omega))
      apply text_ext
      simp [digitsRec]
theorem ref_digits (n : Nat) (hn : n < 18446744073709551616) : Ev (fun k => cambistref02_Digits.f k (n : Int)) (digitsOf n) := by
  refine ev_eq ?_ (ref_digits_loop n hn 16 ⟨#[]⟩ (Nat.le_refl _) rfl)
  apply text_ext
  simp [digitsOf_data]

/-- What the document's Number adds of a byte. -/
def nib (c : UInt8) : Nat := if 48 ≤ c.toNat ∧ c.toNat ≤ 57 then c.toNat - 48 else ((c.toNat + 159) % 256 + 10) % 256 % 16
theorem nib_facts : ∀ n : Fin 256, nib (UInt8.ofNat n.val) < 16 ∧ (if 0 ≤ hexPlace (UInt8.ofNat n.val) then hexPlace (UInt8.ofNat n.val) = (nib (UInt8.ofNat n.val) : Int) ∧ (hexSign (nib (UInt8.ofNat n.val))).toUInt8 = UInt8.ofNat n.val else (hexSign (nib (UInt8.ofNat n.val))).toUInt8 ≠ UInt8.ofNat n.val) := by decide +kernel
theorem nib_fact (c : UInt8) : nib c < 16 ∧ (if 0 ≤ hexPlace c then hexPlace c = (nib c : Int) ∧ (hexSign (nib c)).toUInt8 = c else (hexSign (nib c)).toUInt8 ≠ c) :=
  all_u8 (p := fun c => nib c < 16 ∧ (if 0 ≤ hexPlace c then hexPlace c = (nib c : Int) ∧ (hexSign (nib c)).toUInt8 = c else (hexSign (nib c)).toUInt8 ≠ c)) nib_facts c
def nibFold (l : List UInt8) (acc : Nat) : Nat := l.foldl (fun n c => n * 16 + nib c) acc
theorem nibFold_split (l : List UInt8) : ∀ acc, nibFold l acc = acc * 16 ^ l.length + nibFold l 0 ∧ nibFold l 0 < 16 ^ l.length := by
  induction l with
  | nil => intro acc; simp [nibFold]
  | cons c l ih =>
    intro acc
    have h := (nib_fact c).1
    have e1 : ∀ a, nibFold (c :: l) a = nibFold l (a * 16 + nib c) := fun a => rfl
    rw [e1, e1, (ih (acc * 16 + nib c)).1, (ih (0 * 16 + nib c)).1, List.length_cons, Nat.pow_succ]
    have h2 := (ih 0).2
    generalize nibFold l 0 = u at *
    generalize 16 ^ l.length = p at *
    have q1 : (acc * 16 + nib c) * p = acc * (p * 16) + nib c * p := by rw [Nat.add_mul, Nat.mul_assoc, Nat.mul_comm 16 p]
    have q2 : (0 * 16 + nib c) * p = nib c * p := by rw [Nat.zero_mul, Nat.zero_add]
    have q3 : nib c * p ≤ 15 * p := Nat.mul_le_mul_right p (by omega)
    rw [q1, q2]
    constructor
    · omega
    · omega
theorem digitsRec_add (k a n : Nat) (h : n < 16 ^ k) : digitsRec k (a * 16 ^ k + n) = digitsRec k n := by
  have : ∀ j, j ≤ k → digitsRec j (a * 16 ^ k + n) = digitsRec j n := by
    intro j
    induction j with
    | zero => intro _; rfl
    | succ j ih =>
      intro hj
      simp only [digitsRec]
      rw [ih (by omega)]
      congr 3
      obtain ⟨d, rfl⟩ : ∃ d, k = j + 1 + d := ⟨k - (j + 1), by omega⟩
      have e : a * 16 ^ (j + 1 + d) + n = n + 16 ^ j * (16 * (a * 16 ^ d)) := by
        rw [Nat.pow_add, Nat.pow_succ]
        rw [Nat.add_comm]
        congr 1
        generalize 16 ^ j = x
        generalize 16 ^ d = y
        rw [Nat.mul_comm a, Nat.mul_assoc, Nat.mul_assoc, Nat.mul_comm y a]
      rw [e, Nat.add_mul_div_left _ _ (Nat.pow_pos (by decide)), Nat.add_mul_mod_self_left]
  exact this k (Nat.le_refl _)
theorem digits_nibs (l : List UInt8) : digitsRec l.length (nibFold l 0) = l.map fun c => (hexSign (nib c)).toUInt8 := by
  induction l with
  | nil => rfl
  | cons c l ih =>
    have h := (nib_fact c).1
    have e1 : nibFold (c :: l) 0 = nibFold l (0 * 16 + nib c) := rfl
    obtain ⟨h1, h2⟩ := nibFold_split l (0 * 16 + nib c)
    rw [List.length_cons, digitsRec, e1, h1, digitsRec_add _ _ _ h2, ih, List.map_cons]
    congr 3
    rw [Nat.add_comm, Nat.add_mul_div_right _ _ (Nat.pow_pos (by decide)), Nat.div_eq_of_lt h2]
    omega
theorem nibs_fold (l : List UInt8) (h : hexAll l = true) : nibFold l 0 = numFold l := by
  have : ∀ (l : List UInt8) acc, hexAll l = true → l.foldl (fun n c => n * 16 + nib c) acc = l.foldl (fun n c => n * 16 + (hexPlace c).toNat) acc := by
    intro l
    induction l with
    | nil => intro acc _; rfl
    | cons c l ih =>
      intro acc h
      have h2 : decide (0 ≤ hexPlace c) = true ∧ hexAll l = true := by
        have : (decide (0 ≤ hexPlace c) && hexAll l) = true := h
        simpa using this
      have h3 := (nib_fact c).2
      rw [if_pos (of_decide_eq_true h2.1)] at h3
      rw [List.foldl_cons, List.foldl_cons, ih _ h2.2, h3.1]
      rfl
  exact this l 0 h
theorem nibs_back (l : List UInt8) : (l.map fun c => (hexSign (nib c)).toUInt8) = l ↔ hexAll l = true := by
  induction l with
  | nil => simp [hexAll]
  | cons c l ih =>
    have e : hexAll (c :: l) = (decide (0 ≤ hexPlace c) && hexAll l) := rfl
    have h3 := (nib_fact c).2
    rw [List.map_cons, List.cons.injEq, ih, e, Bool.and_eq_true, decide_eq_true_eq]
    by_cases h : 0 ≤ hexPlace c
    · rw [if_pos h] at h3
      simp [h3.2, h]
    · rw [if_neg h] at h3
      simp [h3, h]

theorem byte_sub (c : UInt8) : ((c.toNat : Int) - 97) % 256 = (((c.toNat + 159) % 256 : Nat) : Int) := by
  have := c.toNat_lt
  omega
theorem and_15 (n : Nat) (h : n < 256) : Go.bits .and .u64 (n : Int) 15 = ((n % 16 : Nat) : Int) := by
  rw [show (15 : Int) = ((15 : Nat) : Int) from rfl, u64_and_nat _ _ (by omega) (by decide), show 15 = 2 ^ 4 - 1 from rfl, Nat.and_two_pow_sub_one_eq_mod]
theorem step_next (a : Nat) (v : Nat) (hv : v < 16) (j : Nat) (hj : j ≤ 15) (ha : a < 16 ^ j) : IntKind.u64.wrap ((IntKind.u64.wrap ((a : Int) * 16)) + (v : Int)) = ((a * 16 + v : Nat) : Int) := by
  have hp : (16 : Nat) ^ j ≤ 16 ^ 15 := Nat.pow_le_pow_right (by decide) hj
  have hp15 : (16 : Nat) ^ 15 = 1152921504606846976 := by decide
  rw [hp15] at hp
  rw [IntWalk.u64_in ((a : Int) * 16) (by omega), IntWalk.u64_in _ (by omega)]
  omega
theorem ref_number_loop (s : ByteArray) (hs : s.size = 16) : ∀ (m i : Nat), 16 - i = m → i ≤ 16 →
    Ev (fun k => cambistref02_Number.l0 k s ((nibFold (s.data.toList.take i) 0 : Nat) : Int) (i : Int)) (if hexAll s.data.toList = true then ((numFold s.data.toList : Nat) : Int) else 0, if hexAll s.data.toList = true then (0 : Int) else 20) := by
  intro m
  induction m with
  | zero =>
    intro i hm hi
    obtain rfl : i = 16 := by omega
    have ht : s.data.toList.take 16 = s.data.toList := List.take_of_length_le (by rw [size_len, hs]; exact Nat.le_refl _)
    have hlen : s.data.toList.length = 16 := by rw [size_len, hs]
    have hlt := (nibFold_split s.data.toList 0).2
    rw [hlen] at hlt
    have e16 : (16 : Nat) ^ 16 = 18446744073709551616 := by decide
    rw [e16] at hlt
    have hback := digits_nibs s.data.toList
    rw [hlen] at hback
    rw [ht]
    refine ev_succ ?_
    simp only [cambistref02_Number.l0]
    refine ev_neg (by omega) (ev_call (ref_digits _ hlt) ?_)
    rw [toList_data, toList_data, digitsOf_data, hback]
    by_cases h : hexAll s.data.toList = true
    · rw [if_pos h, if_pos h]
      refine ev_pos ((nibs_back _).2 h) (ev_some ?_)
      rw [nibs_fold _ h]
    · rw [if_neg h, if_neg h]
      exact ev_neg (fun e => h ((nibs_back _).1 e)) (ev_some rfl)
  | succ m ih =>
    intro i hm hi
    have hlt : i < s.data.toList.length := by rw [size_len]; omega
    have next := ih (i + 1) (by omega) (by omega)
    have hc := (nib_fact s.data.toList[i]).1
    have hf : nibFold (s.data.toList.take (i + 1)) 0 = nibFold (s.data.toList.take i) 0 * 16 + nib s.data.toList[i] := by
      rw [List.take_succ_eq_append_getElem hlt]
      unfold nibFold
      rw [List.foldl_append]
      rfl
    have hb := (nibFold_split (s.data.toList.take i) 0).2
    rw [List.length_take, Nat.min_eq_left (by omega)] at hb
    rw [hf, ← step_next _ _ hc i (by omega) hb, ← wrap_next (n := 16) hi (by decide)] at next
    refine ev_succ ?_
    simp only [cambistref02_Number.l0]
    refine ev_pos (by omega) (ev_pos (by omega) (ev_pos (by omega) ?_))
    rw [bt_get s i hlt]
    generalize s.data.toList[i] = c at *
    have hcl := c.toNat_lt
    by_cases h1 : 48 ≤ c.toNat
    · refine ev_pos (by omega) ?_
      by_cases h2 : c.toNat ≤ 57
      · have e : ((c.toNat : Int) - 48) % 256 = (nib c : Int) := by
          unfold nib
          rw [if_pos ⟨h1, h2⟩]
          omega
        rw [e]
        exact ev_pos (by omega) next
      · have e : Go.bits .and .u64 (((((c.toNat : Int) - 97) % 256) + 10) % 256) 15 = (nib c : Int) := by
          rw [byte_sub, show ((((c.toNat + 159) % 256 : Nat) : Int) + 10) % 256 = ((((c.toNat + 159) % 256 + 10) % 256 : Nat) : Int) by omega, and_15 _ (by omega)]
          unfold nib
          rw [if_neg (by omega)]
        rw [e]
        exact ev_neg (by omega) next
    · have e : Go.bits .and .u64 (((((c.toNat : Int) - 97) % 256) + 10) % 256) 15 = (nib c : Int) := by
        rw [byte_sub, show ((((c.toNat + 159) % 256 : Nat) : Int) + 10) % 256 = ((((c.toNat + 159) % 256 + 10) % 256 : Nat) : Int) by omega, and_15 _ (by omega)]
        unfold nib
        rw [if_neg (by omega)]
      rw [e]
      exact ev_neg (by omega) next
theorem number_some (s : ByteArray) : label_Number.f s = some (if s.size = 16 ∧ hexAll s.data.toList = true then ((numFold s.data.toList : Nat) : Int) else 0, if s.size = 16 ∧ hexAll s.data.toList = true then (0 : Int) else 20) := by
  unfold label_Number.f
  by_cases h1 : s.size = 16
  · by_cases h2 : hexAll s.data.toList = true
    · rw [if_pos h1, if_pos h2, if_pos ⟨h1, h2⟩, if_pos ⟨h1, h2⟩]
    · rw [if_pos h1, if_neg h2, if_neg (fun h => h2 h.2), if_neg (fun h => h2 h.2)]
  · rw [if_neg h1, if_neg (fun h => h1 h.1), if_neg (fun h => h1 h.1)]
theorem ref_number (s : ByteArray) : Ev (fun k => cambistref02_Number.f k s) (if s.size = 16 ∧ hexAll s.data.toList = true then ((numFold s.data.toList : Nat) : Int) else 0, if s.size = 16 ∧ hexAll s.data.toList = true then (0 : Int) else 20) := by
  unfold cambistref02_Number.f
  by_cases h1 : s.size = 16
  · have := ref_number_loop s h1 16 0 (by omega) (by omega)
    simp only [h1, true_and]
    exact ev_pos (by omega) this
  · rw [if_neg (fun h => h1 h.1), if_neg (fun h => h1 h.1)]
    exact ev_neg (by omega) (ev_some rfl)
end Go.Proofs.YtalepbkdakjhdaaDoor.E
