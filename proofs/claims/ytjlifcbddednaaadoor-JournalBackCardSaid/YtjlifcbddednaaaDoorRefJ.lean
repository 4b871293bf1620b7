/- The document's answers of layer 2 to numbers in sixteens. How far an amount is from 0, as the document reckons it. The document's texts of amounts. coin.Add and the document's: the sum, or the error. The document's sum: taken in turns, it is the sum, or the error. -/
import Derived.Test.YtjlifcbddednaaaDoorHex
import Derived.Test.YtjlifcbddednaaaDoorMini
import Derived.Test.YtjlifcbddednaaaDoorPx9
import Derived.Test.YtjlifcbddednaaaDoorNumText
import Derived.Test.YtjlifcbddednaaaDoorEv
import Derived.Laws.BitsLemmas
import Derived.Laws.Bits64
import Derived.IntWalk
import Derived.Test.YtjlifcbddednaaaDoorPx9
import Derived.Test.YtjlifcbddednaaaDoorArith
import Derived.Test.YtjlifcbddednaaaDoorPx9
import Derived.Test.YtjlifcbddednaaaDoorPx5
import Derived.Test.YtjlifcbddednaaaDoorPx7
import Derived.Test.YtjlifcbddednaaaDoorSumPure
import Derived.Test.YtjlifcbddednaaaDoorPx8
namespace Go.Proofs.YtjlifcbddednaaaDoor.E
open Go.RowKit Go.Proofs.YtjlifcbddednaaaDoor.P Go.Proofs.YtjlifcbddednaaaDoorW.PrintWords Go.Proofs.YtjlifcbddednaaaDoorW.PrintLast Go.Proofs.YtjlifcbddednaaaDoorW.PrintMore

theorem signs_at : ∀ d : Fin 16, strOfNums [bt (⟨#[48, 49, 50, 51, 52, 53, 54, 55, 56, 57, 97, 98, 99, 100, 101, 102]⟩ : ByteArray) (d.val : Int)] = ⟨#[(hexSign d.val).toUInt8]⟩ := by decide +kernel
theorem strOf_sign (d : Nat) (h : d < 16) : strOfNums [bt (⟨#[48, 49, 50, 51, 52, 53, 54, 55, 56, 57, 97, 98, 99, 100, 101, 102]⟩ : ByteArray) (d : Int)] = ⟨#[(hexSign d).toUInt8]⟩ := signs_at ⟨d, h⟩
theorem shift_digit (n j : Nat) (hn : n < 18446744073709551616) (hj : j < 16) : Go.bits .and .u64 (shr .u64 (n : Int) (IntKind.u64.wrap (wrap64 (4 * (j : Int))))) 15 = ((n / 16 ^ j % 16 : Nat) : Int) := by
  rw [wrap_in (by omega) (by omega), IntWalk.u64_in _ (by omega)]
  unfold shr
  rw [show (4 * (j : Int)).toNat = 4 * j by omega, Nat.min_eq_left (by simp [IntKind.bits]; omega)]
  exact bits_digit n j hn
theorem ref_digits_loop (n : Nat) (hn : n < 18446744073709551616) : ∀ (j : Nat) (out : ByteArray), j ≤ 16 → out.size + j = 16 → Ev (fun k => cambistref02_Digits.l0 k (n : Int) out ((j : Int) - 1)) (out ++ ⟨(digitsRec j n).toArray⟩) := by
  intro j
  induction j with
  | zero =>
    intro out _ _
    refine ev_succ ?_
    simp only [cambistref02_Digits.l0]
    refine ev_neg (by omega) (ev_some ?_)
    apply text_ext
    simp [digitsRec]
  | succ j ih =>
    intro out hj hs
    have hd : n / 16 ^ j % 16 < 16 := Nat.mod_lt _ (by decide)
    refine ev_succ ?_
    simp only [cambistref02_Digits.l0]
    rw [show ((j + 1 : Nat) : Int) - 1 = (j : Int) by omega, shift_digit n j hn (by omega)]
    refine ev_pos (by omega) (ev_pos ?_ (ev_pos (by omega) (ev_pos (by omega) (ev_opt rfl ?_))))
    · rw [wrap_in (by omega) (by omega), IntWalk.u64_in _ (by omega)]; omega
    rw [strOf_sign _ hd]
    refine ev_pos ?_ ?_
    · show out.size + 1 ≤ _
      omega
    · rw [wrap_in (by omega) (by omega)]
      refine ev_eq ?_ (ih (out ++ ⟨#[(hexSign (n / 16 ^ j % 16)).toUInt8]⟩) (by omega) (by rw [ByteArray.size_append]; show out.size + 1 + j = 16; omega))
      apply text_ext
      simp [digitsRec]
theorem ref_digits (n : Nat) (hn : n < 18446744073709551616) : Ev (fun k => cambistref02_Digits.f k (n : Int)) (digitsOf n) := by
  refine ev_eq ?_ (ref_digits_loop n hn 16 ⟨#[]⟩ (Nat.le_refl _) rfl)
  apply text_ext
  simp [digitsOf_data]
end Go.Proofs.YtjlifcbddednaaaDoor.E
namespace Go.Proofs.YtjlifcbddednaaaDoor.E
open Go.RowKit Go.Proofs.YtjlifcbddednaaaDoor.P Go.Proofs.YtjlifcbddednaaaDoorW.PrintWords Go.Proofs.YtjlifcbddednaaaDoorW.PrintLast
theorem size_some {a : Int} (h : in64 a) : cambistref01_size.f a = some (a.natAbs : Int) := by
  have h1 := h.1
  have h2 := h.2
  unfold cambistref01_size.f
  by_cases hn : a < 0
  · rw [if_pos hn, wrap_in (x := a + 1) (by omega) (by omega), wrap_in (x := -(a + 1)) (by omega) (by omega), IntKind.wrap_u64, IntKind.wrap_u64]
    congr 1
    omega
  · rw [if_neg hn, IntKind.wrap_u64]
    congr 1
    omega
theorem natAbs_le {a : Int} (h : in64 a) : a.natAbs ≤ 9223372036854775808 := by
  have h1 := h.1
  have h2 := h.2
  omega
end Go.Proofs.YtjlifcbddednaaaDoor.E
namespace Go.Proofs.YtjlifcbddednaaaDoor.E
open Go.RowKit Go.Proofs.YtjlifcbddednaaaDoor.P Go.Proofs.YtjlifcbddednaaaDoorW.PrintWords Go.Proofs.YtjlifcbddednaaaDoorW.PrintLast Go.Proofs.YtjlifcbddednaaaDoorW.PrintMore
theorem tens_at : ∀ d : Fin 10, strOfNums [((48 + d.val : Nat) : Int)] = ⟨#[UInt8.ofNat (48 + d.val)]⟩ := by decide +kernel
theorem ten_sign (n : Nat) (_h : n < 18446744073709551616) : strOfNums [(IntKind.u64.wrap (48 + (Int.tmod (n : Int) 10))) % 256] = ⟨#[UInt8.ofNat (48 + n % 10)]⟩ := by
  have e : (IntKind.u64.wrap (48 + (Int.tmod (n : Int) 10))) % 256 = ((48 + n % 10 : Nat) : Int) := by
    rw [Int.tmod_eq_emod_of_nonneg (Int.natCast_nonneg _), IntKind.wrap_u64]
    omega
  rw [e]
  exact tens_at ⟨n % 10, Nat.mod_lt _ (by decide)⟩
theorem ten_rest (n : Nat) (h : n < 18446744073709551616) : IntKind.u64.wrap (Int.tdiv (n : Int) 10) = ((n / 10 : Nat) : Int) := by
  rw [Int.tdiv_eq_ediv_of_nonneg (Int.natCast_nonneg _), IntKind.wrap_u64]
  omega
def front (k n : Nat) (out : List UInt8) : List UInt8 := (if n = 0 then [] else decRec k n) ++ out
theorem front_next (k n : Nat) (out : List UInt8) (_hn : n < 10 ^ (k + 1)) (h0 : 0 < n) : front k (n / 10) (UInt8.ofNat (48 + n % 10) :: out) = front (k + 1) n out := by
  unfold front
  rw [if_neg (show ¬ n = 0 by omega), decRec]
  by_cases h : n < 10
  · rw [if_pos (by omega), if_pos h, Nat.mod_eq_of_lt h]
    rfl
  · rw [if_neg (by omega), if_neg h, List.append_assoc]
    rfl
theorem ref_text_loop (x0 : Int) : ∀ (k n : Nat) (out : ByteArray), n < 10 ^ k → n < 18446744073709551616 → out.size + k ≤ 100 → Ev (fun j => cambistref01_Text.l0 j x0 (n : Int) out) ⟨((if x0 < 0 then [45] else []) ++ front k n out.data.toList).toArray⟩ := by
  intro k
  have stop : ∀ (k : Nat) (out : ByteArray), out.size ≤ 100 → Ev (fun j => cambistref01_Text.l0 j x0 (0 : Int) out) ⟨((if x0 < 0 then [45] else []) ++ front k 0 out.data.toList).toArray⟩ := by
    intro k out hs
    refine ev_succ ?_
    simp only [cambistref01_Text.l0]
    refine ev_neg (by omega) ?_
    by_cases hx : x0 < 0
    · refine ev_pos hx (ev_pos (by omega) (ev_some ?_))
      apply text_ext
      rw [if_pos hx]
      simp [front]
    · refine ev_neg hx (ev_some ?_)
      apply text_ext
      rw [if_neg hx]
      simp [front]
  induction k with
  | zero =>
    intro n out hn _ hs
    obtain rfl : n = 0 := by simpa using hn
    exact stop 0 out (by omega)
  | succ k ih =>
    intro n out hn h64 hs
    rcases Nat.eq_zero_or_pos n with h0 | h0
    · subst h0
      exact stop _ out (by omega)
    · refine ev_succ ?_
      simp only [cambistref01_Text.l0]
      refine ev_pos (by omega) (ev_opt rfl ?_)
      rw [ten_sign n h64, ten_rest n h64]
      refine ev_pos (by show 1 + out.size ≤ _; omega) ?_
      refine ev_eq ?_ (ih (n / 10) (⟨#[UInt8.ofNat (48 + n % 10)]⟩ ++ out) (by rw [Nat.pow_succ] at hn; omega) (by omega) (by rw [ByteArray.size_append]; show 1 + out.size + k ≤ 100; omega))
      congr 3
      rw [← front_next k n _ hn h0]
      simp
theorem ref_text {a : Int} (h : in64 a) : Ev (fun k => cambistref01_Text.f k a) ⟨(intText a).toArray⟩ := by
  have h1 := h.1
  have h2 := h.2
  have hm := natAbs_le h
  unfold cambistref01_Text.f
  refine ev_opt (size_some h) ?_
  rw [ten_sign _ (by omega), ten_rest _ (by omega)]
  refine ev_eq ?_ (ref_text_loop a 19 (a.natAbs / 10) ⟨#[UInt8.ofNat (48 + a.natAbs % 10)]⟩ (by omega) (by omega) (by show 1 + 19 ≤ 100; decide))
  congr 2
  have e : front 19 (a.natAbs / 10) [UInt8.ofNat (48 + a.natAbs % 10)] = decText a.natAbs := by
    unfold decText
    rw [decRec]
    unfold front
    by_cases h10 : a.natAbs < 10
    · rw [if_pos (by omega), if_pos h10, Nat.mod_eq_of_lt h10]
      rfl
    · rw [if_neg (by omega), if_neg h10]
  show (if a < 0 then [45] else []) ++ front 19 (a.natAbs / 10) [UInt8.ofNat (48 + a.natAbs % 10)] = intText a
  rw [e]
  unfold intText
  by_cases hn : a < 0
  · rw [if_pos hn, if_pos hn]
    rfl
  · rw [if_neg hn, if_neg hn, show a.natAbs = a.toNat by omega]
    rfl
theorem text_some {a : Int} (h : in64 a) : coin_Text.f a = some ⟨(intText a).toArray⟩ := if_pos h
end Go.Proofs.YtjlifcbddednaaaDoor.E
namespace Go.Proofs.YtjlifcbddednaaaDoor.E
open Go.RowKit Go.Proofs.YtjlifcbddednaaaDoor.P Go.Proofs.YtjlifcbddednaaaDoorW.PrintWords Go.Proofs.YtjlifcbddednaaaDoorW.PrintLast
theorem add_some {a b : Int} (ha : in64 a) (hb : in64 b) : coin_Add.f a b = some (outOf (a + b)) := by
  unfold coin_Add.f
  by_cases h : in64 (a + b)
  · rw [if_neg (by rw [add_over ha hb]; exact fun n => n h), outOf_in h, wrap64_in h]
  · rw [if_pos ((add_over ha hb).2 h), outOf_over h]
theorem ref_add {a b : Int} (ha : in64 a) (hb : in64 b) : cambistref01_Add.f a b = some (outOf (a + b)) := by
  have h1 := ha.1
  have h2 := ha.2
  have h3 := hb.1
  have h4 := hb.2
  unfold cambistref01_Add.f
  by_cases hp : b > 0
  · rw [if_pos hp, wrap_in (x := 9223372036854775807 - b) (by omega) (by omega)]
    by_cases h : in64 (a + b)
    · rw [if_neg (by unfold in64 at h; omega), if_neg (by omega), outOf_in h, wrap64_in h]
    · rw [if_pos (by unfold in64 at h; omega), outOf_over h]
  · rw [if_neg hp]
    by_cases hn : b < 0
    · rw [if_pos hn, wrap_in (x := -9223372036854775808 - b) (by omega) (by omega)]
      by_cases h : in64 (a + b)
      · rw [if_neg (by unfold in64 at h; omega), outOf_in h, wrap64_in h]
      · rw [if_pos (by unfold in64 at h; omega), outOf_over h]
    · have h : in64 (a + b) := by unfold in64; omega
      rw [if_neg hn, outOf_in h, wrap64_in h]
end Go.Proofs.YtjlifcbddednaaaDoor.E
namespace Go.Proofs.YtjlifcbddednaaaDoor.E
open Go.RowKit Go.Proofs.YtjlifcbddednaaaDoor.P Go.Proofs.YtjlifcbddednaaaDoorW.PrintWords Go.Proofs.YtjlifcbddednaaaDoorW.PrintLast
def Ups (l : List Int) : Prop := ∀ x ∈ l, in64 x ∧ 0 ≤ x
def Downs (l : List Int) : Prop := ∀ x ∈ l, in64 x ∧ x < 0
theorem ups_sum {l : List Int} (h : Ups l) : 0 ≤ sumI l := by
  induction l with
  | nil => exact Int.le_refl _
  | cons x l ih =>
    have h1 := (h x (List.mem_cons_self ..)).2
    have h2 := ih (fun y hy => h y (List.mem_cons_of_mem _ hy))
    simp only [sumI]
    omega
theorem downs_sum {l : List Int} (h : Downs l) : sumI l ≤ 0 := by
  induction l with
  | nil => exact Int.le_refl _
  | cons x l ih =>
    have h1 := (h x (List.mem_cons_self ..)).2
    have h2 := ih (fun y hy => h y (List.mem_cons_of_mem _ hy))
    simp only [sumI]
    omega
theorem sum_turns : ∀ (n : Nat) (up down : List Int) (s : Int), up.length + down.length = n → in64 s → Ups up → Downs down → Ev (fun k => cambistref01_Sum.l1 k up down s) (outOf (s + sumI up + sumI down)) := by
  intro n
  induction n with
  | zero =>
    intro up down s hn hs _ _
    have hu : up = [] := List.eq_nil_of_length_eq_zero (by omega)
    have hd : down = [] := List.eq_nil_of_length_eq_zero (by omega)
    subst hu hd
    refine ev_succ ?_
    simp only [cambistref01_Sum.l1]
    refine ev_neg (by decide) (ev_succ ?_)
    simp only [cambistref01_Sum.j2]
    refine ev_neg (by decide) (ev_some ?_)
    rw [outOf_in (by simpa [sumI] using hs)]
    simp [sumI]
  | succ n ih =>
    intro up down s hn hs hU hD
    refine ev_succ ?_
    simp only [cambistref01_Sum.l1]
    have s1 := hs.1
    have s2 := hs.2
    cases up with
    | nil =>
      cases down with
      | nil => simp at hn
      | cons d down =>
        have hd := hD d (List.mem_cons_self ..)
        have hd0 := hd.1.1
        have hd1 := hd.2
        have hD' : Downs down := fun y hy => hD y (List.mem_cons_of_mem _ hy)
        have hS := downs_sum hD'
        refine ev_neg (by simp) ?_
        rw [decide_eq_true (by simp <;> omega)]
        refine ev_succ ?_
        simp only [cambistref01_Sum.j2]
        refine ev_pos trivial (ev_neg (by simp) ?_)
        rw [beq_eq_false_iff_ne.2 (by simp <;> omega)]
        refine ev_succ ?_
        simp only [cambistref01_Sum.j3]
        refine ev_neg (by decide) (ev_neg (by simp) (ev_succ ?_))
        simp only [cambistref01_Sum.j4]
        refine ev_pos (by simp) (ev_pos (by simp <;> omega) (ev_opt (ref_add hs (b := d) hd.1) ?_))
        by_cases h : in64 (s + d)
        · rw [outOf_in h]
          refine ev_pos rfl (ev_pos (by simp <;> omega) ?_)
          refine ev_eq ?_ (ih [] down (s + d) (by simpa using hn) h (fun y hy => by cases hy) hD')
          congr 1
          simp only [sumI]
          omega
        · rw [outOf_over h]
          refine ev_neg (by decide) (ev_some ?_)
          rw [outOf_over]
          simp only [sumI]
          unfold in64 at h ⊢
          omega
    | cons u up =>
      have hu := hU u (List.mem_cons_self ..)
      have hu0 := hu.1.2
      have hu1 := hu.2
      have hU' : Ups up := fun y hy => hU y (List.mem_cons_of_mem _ hy)
      have hS := ups_sum hU'
      refine ev_pos (by simp <;> omega) (ev_succ ?_)
      simp only [cambistref01_Sum.j2]
      refine ev_pos trivial (ev_pos (by simp <;> omega) ?_)
      have up_first : (s < 0 ∨ down = []) → Ev (fun k => cambistref01_Sum.j3 k (u :: up) down s true) (outOf (s + sumI (u :: up) + sumI down)) := by
        intro hor
        refine ev_succ ?_
        simp only [cambistref01_Sum.j3]
        refine ev_pos trivial (ev_pos (by simp <;> omega) (ev_opt (ref_add hs (b := u) hu.1) ?_))
        by_cases h : in64 (s + u)
        · rw [outOf_in h]
          refine ev_pos rfl (ev_pos (by simp <;> omega) ?_)
          refine ev_eq ?_ (ih up down (s + u) (by simp only [List.length_cons] at hn; omega) h hU' hD)
          congr 1
          simp only [sumI]
          omega
        · rw [outOf_over h]
          refine ev_neg (by decide) (ev_some ?_)
          rw [outOf_over]
          rcases hor with hor | rfl
          · exfalso
            apply h
            unfold in64
            omega
          · simp only [sumI]
            unfold in64 at h ⊢
            omega
      by_cases hneg : s < 0
      · exact ev_pos hneg (up_first (.inl hneg))
      · refine ev_neg hneg ?_
        cases down with
        | nil => exact ev_pos rfl (up_first (.inr rfl))
        | cons d down =>
          have hd := hD d (List.mem_cons_self ..)
          have hd0 := hd.1.1
          have hd1 := hd.2
          have hD' : Downs down := fun y hy => hD y (List.mem_cons_of_mem _ hy)
          refine ev_neg (by simp <;> omega) ?_
          rw [beq_eq_false_iff_ne.2 (by simp <;> omega)]
          refine ev_succ ?_
          simp only [cambistref01_Sum.j3]
          refine ev_neg (by decide) (ev_pos (by simp <;> omega) (ev_pos (by omega) (ev_succ ?_)))
          simp only [cambistref01_Sum.j4]
          refine ev_pos trivial (ev_pos (by simp <;> omega) (ev_opt (ref_add hs (b := d) hd.1) ?_))
          have h : in64 (s + d) := by unfold in64; omega
          rw [outOf_in h]
          refine ev_pos rfl (ev_pos (by simp <;> omega) ?_)
          refine ev_eq ?_ (ih (u :: up) down (s + d) (by simp only [List.length_cons] at hn ⊢; omega) h hU hD')
          congr 1
          simp only [sumI]
          omega
theorem rd_in (l : List Int) (i : Nat) (_h : i < l.length) : rd l (i : Int) = l.getD i 0 := by simp [rd]
theorem getD_mem (l : List Int) (i : Nat) (h : i < l.length) : l.getD i 0 ∈ l := by
  rw [List.getD_eq_getElem?_getD, List.getElem?_eq_getElem h]
  exact List.getElem_mem h
theorem sum_parted (l : List Int) (hl : ∀ x ∈ l, in64 x) (hn : l.length ≤ 1048576) : ∀ (m i : Nat) (up down : List Int), l.length - i = m → i ≤ l.length → up.length + down.length = i → Ups up → Downs down → sumI up + sumI down = sumI (l.take i) → Ev (fun k => cambistref01_Sum.l0 k l up down (i : Int)) (outOf (sumI l)) := by
  intro m
  induction m with
  | zero =>
    intro i up down hm hi hlen hU hD hsum
    obtain rfl : i = l.length := by omega
    rw [List.take_length] at hsum
    refine ev_succ ?_
    simp only [cambistref01_Sum.l0]
    refine ev_neg (by omega) (ev_eq ?_ (sum_turns _ up down 0 rfl (by unfold in64; omega) hU hD))
    congr 1
    omega
  | succ m ih =>
    intro i up down hm hi hlen hU hD hsum
    have hlt : i < l.length := by omega
    have hx := hl _ (getD_mem l i hlt)
    have hs' : sumI (l.take (i + 1)) = sumI (l.take i) + l.getD i 0 := by rw [take_next l i hlt, sumI_app]; simp [sumI]
    refine ev_succ ?_
    simp only [cambistref01_Sum.l0]
    rw [rd_in l i hlt, wrap_next (n := 1048576) (by omega) (by decide)]
    refine ev_pos (by omega) (ev_pos (by omega) ?_)
    by_cases h0 : l.getD i 0 ≥ 0
    · refine ev_pos h0 (ev_pos (by omega) (ih (i + 1) _ down (by omega) (by omega) (by simp <;> omega) ?_ hD ?_))
      · intro x hx'
        rcases List.mem_append.1 hx' with hx' | hx'
        · exact hU x hx'
        · rw [List.mem_singleton.1 hx']
          exact ⟨hx, h0⟩
      · rw [hs', sumI_app]
        simp only [sumI]
        omega
    · refine ev_neg h0 (ev_pos (by omega) (ih (i + 1) up _ (by omega) (by omega) (by simp <;> omega) hU ?_ ?_))
      · intro x hx'
        rcases List.mem_append.1 hx' with hx' | hx'
        · exact hD x hx'
        · rw [List.mem_singleton.1 hx']
          exact ⟨hx, by omega⟩
      · rw [hs', sumI_app]
        simp only [sumI]
        omega
theorem ref_sum (l : List Int) (hl : ∀ x ∈ l, in64 x) (hn : l.length ≤ 1048576) : Ev (fun k => cambistref01_Sum.f k l) (outOf (sumI l)) :=
  sum_parted l hl hn _ 0 [] [] rfl (Nat.zero_le _) rfl (fun x hx => by cases hx) (fun x hx => by cases hx) rfl
end Go.Proofs.YtjlifcbddednaaaDoor.E
