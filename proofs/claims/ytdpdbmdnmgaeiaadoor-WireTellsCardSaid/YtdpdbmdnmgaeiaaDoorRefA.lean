/- The document's Market answers as the program's. How far an amount is from 0, as the document reckons it. The document's texts of amounts. The document's numbers without a sign, in tens. -/
import Derived.Test.YtdpdbmdnmgaeiaaDoorMarket
import Derived.Test.YtdpdbmdnmgaeiaaDoorCut
import Derived.Test.YtdpdbmdnmgaeiaaDoorNumText
import Derived.Test.YtdpdbmdnmgaeiaaDoorEv
import Derived.Laws.BitsLemmas
import Derived.Laws.Bits64
import Derived.IntWalk
import Derived.Test.YtdpdbmdnmgaeiaaDoorPx2
import Derived.Test.YtdpdbmdnmgaeiaaDoorWMore
import Derived.Test.YtdpdbmdnmgaeiaaDoorPx2
import Derived.Test.YtdpdbmdnmgaeiaaDoorPx3
namespace Go.Proofs.YtdpdbmdnmgaeiaaDoor.E
open Go.RowKit Go.Proofs.YtdpdbmdnmgaeiaaDoor.P Go.Proofs.YtdpdbmdnmgaeiaaDoorW.PrintWords Go.Proofs.YtdpdbmdnmgaeiaaDoorW.PrintLast
/-- A text with a '-' ahead of j is no asset up to j. -/
theorem part_dash (s : ByteArray) (j i : Nat) (hij : i < j) (h : s.data.toList[i]? = some 45) : isPart isUp 6 (s.extract 0 j) = false := by
  unfold isPart
  have hx : (s.extract 0 j).data.toList = s.data.toList.take j := by
    rw [Lib.extract_data]
    simp
  rw [hx]
  have hm : (45 : UInt8) ∈ s.data.toList.take j := by
    refine List.mem_of_getElem? (i := i) ?_
    rw [List.getElem?_take_of_lt hij]
    exact h
  rw [List.all_eq_false.2 ⟨45, hm, by decide⟩]
  rfl
theorem market_later (s : ByteArray) (hs : s.size ≤ 1000000) (i0 : Nat) (h0 : s.data.toList[i0]? = some 45) : ∀ (m i : Nat), s.size - i = m → i ≤ s.size → i0 < i → Ev (fun k => cambistref13_Market.l0 k s (i : Int)) (⟨#[]⟩, ⟨#[]⟩, 1) := by
  intro m
  induction m with
  | zero =>
    intro i hm hi _
    refine ev_succ ?_
    simp only [cambistref13_Market.l0]
    exact ev_neg (by omega) (ev_some rfl)
  | succ m ih =>
    intro i hm hi hlt
    have hil : i < s.data.toList.length := by rw [size_len]; omega
    refine ev_succ ?_
    simp only [cambistref13_Market.l0]
    rw [wrap_next (n := 1000000) (by omega) (by decide)]
    refine ev_pos (by omega) (ev_pos (by omega) ?_)
    have next := ih (i + 1) (by omega) (by omega) (by omega)
    by_cases hd : bt s (i : Int) = 45
    · refine ev_pos hd (ev_pos (by omega) ?_)
      have hx : (s.extract 0 ((i : Int)).toNat) = s.extract 0 i := by rw [Int.toNat_natCast]
      rw [hx]
      have he : (s.extract 0 i).size ≤ 140737488351232 := by rw [ByteArray.size_extract]; omega
      refine ev_call (ref_asset _ he) (ev_pos (by omega) (ev_pos (by omega) ?_))
      have he2 : (s.extract (((i + 1 : Nat) : Int)).toNat s.size).size ≤ 140737488351232 := by rw [ByteArray.size_extract]; omega
      refine ev_call (ref_asset _ he2) ?_
      rw [part_dash s i i0 hlt h0]
      exact ev_neg (by decide) next
    · exact ev_neg hd next
theorem index_none (l : List UInt8) (h : (45 : UInt8) ∉ l) : Lib.index l [45] = -1 := by
  induction l with
  | nil => rfl
  | cons b l ih =>
    have hb : b ≠ 45 := fun e => h (by rw [e]; exact List.mem_cons_self ..)
    rw [index_one_ne hb, ih (fun e => h (List.mem_cons_of_mem _ e))]
    rfl
theorem index_at (p q : List UInt8) (h : (45 : UInt8) ∉ p) : Lib.index (p ++ 45 :: q) [45] = (p.length : Int) := by
  induction p with
  | nil => exact index_one_eq 45 q
  | cons b p ih =>
    have hb : b ≠ 45 := fun e => h (by rw [e]; exact List.mem_cons_self ..)
    rw [List.cons_append, index_one_ne hb, ih (fun e => h (List.mem_cons_of_mem _ e)), if_neg (by omega), List.length_cons]
    omega
theorem market_none (s : ByteArray) (h : (45 : UInt8) ∉ s.data.toList) : marketOf s = (⟨#[]⟩, ⟨#[]⟩, 1) := by
  have e : Lib.cut s.data.toList [45] = (s.data.toList, [], false) := by
    unfold Lib.cut
    rw [index_none _ h, if_neg (by decide)]
  unfold marketOf
  rw [e]
  rfl
theorem market_at (s : ByteArray) (p q : List UInt8) (h : s.data.toList = p ++ 45 :: q) (hp : (45 : UInt8) ∉ p) :
    marketOf s = if isPart isUp 6 ⟨p.toArray⟩ && isPart isUp 6 ⟨q.toArray⟩ && !(p == q) then (⟨p.toArray⟩, ⟨q.toArray⟩, 0) else (⟨#[]⟩, ⟨#[]⟩, 1) := by
  have e : Lib.cut s.data.toList [45] = (p, q, true) := by
    unfold Lib.cut
    rw [h, index_at p q hp, if_pos (by omega)]
    simp
  unfold marketOf
  rw [e]
  simp only [Bool.true_and]
theorem market_first (s : ByteArray) (hs : s.size ≤ 1000000) : ∀ (m i : Nat), s.size - i = m → i ≤ s.size → (45 : UInt8) ∉ s.data.toList.take i → Ev (fun k => cambistref13_Market.l0 k s (i : Int)) (marketOf s) := by
  intro m
  induction m with
  | zero =>
    intro i hm hi hno
    rw [List.take_of_length_le (by rw [size_len]; omega)] at hno
    refine ev_succ ?_
    simp only [cambistref13_Market.l0]
    exact ev_neg (by omega) (ev_some (market_none s hno).symm)
  | succ m ih =>
    intro i hm hi hno
    have hil : i < s.data.toList.length := by rw [size_len]; omega
    refine ev_succ ?_
    simp only [cambistref13_Market.l0]
    rw [wrap_next (n := 1000000) (by omega) (by decide)]
    refine ev_pos (by omega) (ev_pos (by omega) ?_)
    rw [bt_get s i hil]
    by_cases hd : s.data.toList[i] = 45
    · have hsplit : s.data.toList = s.data.toList.take i ++ 45 :: s.data.toList.drop (i + 1) := by
        rw [← hd, ← List.drop_eq_getElem_cons hil, List.take_append_drop]
      have later := market_later s hs i (by rw [List.getElem?_eq_getElem hil, hd]) _ (i + 1) rfl (by omega) (by omega)
      refine ev_pos (by rw [hd]; rfl) (ev_pos (by omega) ?_)
      have hx1 : s.extract 0 ((i : Int)).toNat = ⟨(s.data.toList.take i).toArray⟩ := text_ext (by rw [Int.toNat_natCast, Lib.extract_data]; simp)
      have hx2 : s.extract (((i + 1 : Nat) : Int)).toNat s.size = ⟨(s.data.toList.drop (i + 1)).toArray⟩ := text_ext (by
        rw [Int.toNat_natCast, Lib.extract_data, ← size_len, List.take_of_length_le (by rw [List.length_drop]; omega)])
      have hz : ∀ l : List UInt8, l.length ≤ 1000000 → (⟨l.toArray⟩ : ByteArray).size ≤ 140737488351232 := fun l hl => by
        show l.toArray.size ≤ _
        simp
        omega
      rw [hx1, hx2]
      refine ev_call (ref_asset _ (hz _ (by rw [List.length_take, size_len]; omega))) (ev_pos (by omega) (ev_pos (by omega) (ev_call (ref_asset _ (hz _ (by rw [List.length_drop, size_len]; omega))) ?_)))
      rw [market_at s _ _ hsplit hno]
      generalize s.data.toList.take i = p at *
      generalize s.data.toList.drop (i + 1) = q at *
      cases isPart isUp 6 ⟨p.toArray⟩ with
      | false => exact ev_neg (by decide) later
      | true =>
        refine ev_pos rfl ?_
        cases isPart isUp 6 ⟨q.toArray⟩ with
        | false => exact ev_neg (by decide) later
        | true =>
          refine ev_pos rfl ?_
          by_cases hpq : p = q
          · subst hpq
            exact ev_pos rfl (by simpa using later)
          · refine ev_neg (by rw [toList_data, toList_data]; simpa using hpq) (ev_some ?_)
            simp [hpq]
    · have hne : ¬ ((s.data.toList[i].toNat : Int) = 45) := fun e => hd (by
        apply UInt8.toNat_inj.1
        rw [show (45 : UInt8).toNat = 45 from rfl]
        omega)
      refine ev_neg hne (ih (i + 1) (by omega) (by omega) ?_)
      rw [List.take_succ_eq_append_getElem hil]
      intro hm
      rcases List.mem_append.1 hm with hm | hm
      · exact hno hm
      · exact hd (List.mem_singleton.1 hm).symm
theorem ref_market (s : ByteArray) (hs : s.size ≤ 1000000) : Ev (fun k => cambistref13_Market.f k s) (marketOf s) := market_first s hs _ 0 rfl (Nat.zero_le _) (by simp)
end Go.Proofs.YtdpdbmdnmgaeiaaDoor.E
namespace Go.Proofs.YtdpdbmdnmgaeiaaDoor.E
open Go.RowKit Go.Proofs.YtdpdbmdnmgaeiaaDoor.P Go.Proofs.YtdpdbmdnmgaeiaaDoorW.PrintWords Go.Proofs.YtdpdbmdnmgaeiaaDoorW.PrintLast
theorem wrap64_in {x : Int} (h : in64 x) : wrap64 x = x := wrap_in h.1 h.2
theorem size_some {a : Int} (h : in64 a) : cambistref01_size.f a = some (a.natAbs : Int) := by
  have h1 := h.1
  have h2 := h.2
  unfold cambistref01_size.f
  by_cases hn : a < 0
  · rw [if_pos hn, wrap_in (x := a + 1) (by omega) (by omega), wrap_in (x := -(a + 1)) (by omega) (by omega), IntKind.wrap_u64, IntKind.wrap_u64]
    congr 1
    omega
  · rw [if_neg hn, IntKind.wrap_u64]
    congr 1
    omega
theorem natAbs_le {a : Int} (h : in64 a) : a.natAbs ≤ 9223372036854775808 := by
  have h1 := h.1
  have h2 := h.2
  omega
end Go.Proofs.YtdpdbmdnmgaeiaaDoor.E
namespace Go.Proofs.YtdpdbmdnmgaeiaaDoor.E
open Go.RowKit Go.Proofs.YtdpdbmdnmgaeiaaDoor.P Go.Proofs.YtdpdbmdnmgaeiaaDoorW.PrintWords Go.Proofs.YtdpdbmdnmgaeiaaDoorW.PrintLast Go.Proofs.YtdpdbmdnmgaeiaaDoorW.PrintMore
theorem tens_at : ∀ d : Fin 10, strOfNums [((48 + d.val : Nat) : Int)] = ⟨#[UInt8.ofNat (48 + d.val)]⟩ := by decide +kernel
theorem ten_sign (n : Nat) (_h : n < 18446744073709551616) : strOfNums [(IntKind.u64.wrap (48 + (Int.tmod (n : Int) 10))) % 256] = ⟨#[UInt8.ofNat (48 + n % 10)]⟩ := by
  have e : (IntKind.u64.wrap (48 + (Int.tmod (n : Int) 10))) % 256 = ((48 + n % 10 : Nat) : Int) := by
    rw [Int.tmod_eq_emod_of_nonneg (Int.natCast_nonneg _), IntKind.wrap_u64]
    omega
  rw [e]
  exact tens_at ⟨n % 10, Nat.mod_lt _ (by decide)⟩
theorem ten_rest (n : Nat) (h : n < 18446744073709551616) : IntKind.u64.wrap (Int.tdiv (n : Int) 10) = ((n / 10 : Nat) : Int) := by
  rw [Int.tdiv_eq_ediv_of_nonneg (Int.natCast_nonneg _), IntKind.wrap_u64]
  omega
def front (k n : Nat) (out : List UInt8) : List UInt8 := (if n = 0 then [] else decRec k n) ++ out
theorem front_next (k n : Nat) (out : List UInt8) (_hn : n < 10 ^ (k + 1)) (h0 : 0 < n) : front k (n / 10) (UInt8.ofNat (48 + n % 10) :: out) = front (k + 1) n out := by
  unfold front
  rw [if_neg (show ¬ n = 0 by omega), decRec]
  by_cases h : n < 10
  · rw [if_pos (by omega), if_pos h, Nat.mod_eq_of_lt h]
    rfl
  · rw [if_neg (by omega), if_neg h, List.append_assoc]
    rfl
theorem ref_text_loop (x0 : Int) : ∀ (k n : Nat) (out : ByteArray), n < 10 ^ k → n < 18446744073709551616 → out.size + k ≤ 100 → Ev (fun j => cambistref01_Text.l0 j x0 (n : Int) out) ⟨((if x0 < 0 then [45] else []) ++ front k n out.data.toList).toArray⟩ := by
  intro k
  have stop : ∀ (k : Nat) (out : ByteArray), out.size ≤ 100 → Ev (fun j => cambistref01_Text.l0 j x0 (0 : Int) out) ⟨((if x0 < 0 then [45] else []) ++ front k 0 out.data.toList).toArray⟩ := by
    intro k out hs
    refine ev_succ ?_
    simp only [cambistref01_Text.l0]
    refine ev_neg (by omega) ?_
    by_cases hx : x0 < 0
    · refine ev_pos hx (ev_pos (by omega) (ev_some ?_))
      apply text_ext
      rw [if_pos hx]
      simp [front]
    · refine ev_neg hx (ev_some ?_)
      apply text_ext
      rw [if_neg hx]
      simp [front]
  induction k with
  | zero =>
    intro n out hn _ hs
    obtain rfl : n = 0 := by simpa using hn
    exact stop 0 out (by omega)
  | succ k ih =>
    intro n out hn h64 hs
    rcases Nat.eq_zero_or_pos n with h0 | h0
    · subst h0
      exact stop _ out (by omega)
    · refine ev_succ ?_
      simp only [cambistref01_Text.l0]
      refine ev_pos (by omega) (ev_opt rfl ?_)
      rw [ten_sign n h64, ten_rest n h64]
      refine ev_pos (by show 1 + out.size ≤ _; omega) ?_
      refine ev_eq ?_ (ih (n / 10) (⟨#[UInt8.ofNat (48 + n % 10)]⟩ ++ out) (by rw [Nat.pow_succ] at hn; omega) (by omega) (by rw [ByteArray.size_append]; show 1 + out.size + k ≤ 100; omega))
      congr 3
      rw [← front_next k n _ hn h0]
      simp
theorem ref_text {a : Int} (h : in64 a) : Ev (fun k => cambistref01_Text.f k a) ⟨(intText a).toArray⟩ := by
  have h1 := h.1
  have h2 := h.2
  have hm := natAbs_le h
  unfold cambistref01_Text.f
  refine ev_opt (size_some h) ?_
  rw [ten_sign _ (by omega), ten_rest _ (by omega)]
  refine ev_eq ?_ (ref_text_loop a 19 (a.natAbs / 10) ⟨#[UInt8.ofNat (48 + a.natAbs % 10)]⟩ (by omega) (by omega) (by show 1 + 19 ≤ 100; decide))
  congr 2
  have e : front 19 (a.natAbs / 10) [UInt8.ofNat (48 + a.natAbs % 10)] = decText a.natAbs := by
    unfold decText
    rw [decRec]
    unfold front
    by_cases h10 : a.natAbs < 10
    · rw [if_pos (by omega), if_pos h10, Nat.mod_eq_of_lt h10]
      rfl
    · rw [if_neg (by omega), if_neg h10]
  show (if a < 0 then [45] else []) ++ front 19 (a.natAbs / 10) [UInt8.ofNat (48 + a.natAbs % 10)] = intText a
  rw [e]
  unfold intText
  by_cases hn : a < 0
  · rw [if_pos hn, if_pos hn]
    rfl
  · rw [if_neg hn, if_neg hn, show a.natAbs = a.toNat by omega]
    rfl
theorem text_some {a : Int} (h : in64 a) : coin_Text.f a = some ⟨(intText a).toArray⟩ := if_pos h
end Go.Proofs.YtdpdbmdnmgaeiaaDoor.E
namespace Go.Proofs.YtdpdbmdnmgaeiaaDoor.E
open Go.RowKit Go.Proofs.YtdpdbmdnmgaeiaaDoor.P Go.Proofs.YtdpdbmdnmgaeiaaDoorW.PrintWords Go.Proofs.YtdpdbmdnmgaeiaaDoorW.PrintLast Go.Proofs.YtdpdbmdnmgaeiaaDoorW.PrintMore
theorem ref_dec_loop : ∀ (k n : Nat) (out : ByteArray), n < 10 ^ k → n < 18446744073709551616 → out.size + k ≤ 100 → Ev (fun j => cambistref19_Decimal.l0 j (n : Int) out) ⟨(front k n out.data.toList).toArray⟩ := by
  intro k
  have stop : ∀ (k : Nat) (out : ByteArray), Ev (fun j => cambistref19_Decimal.l0 j (0 : Int) out) ⟨(front k 0 out.data.toList).toArray⟩ := by
    intro k out
    refine ev_succ ?_
    simp only [cambistref19_Decimal.l0]
    refine ev_neg (by omega) (ev_some ?_)
    apply text_ext
    simp [front]
  induction k with
  | zero =>
    intro n out hn _ _
    obtain rfl : n = 0 := by simpa using hn
    exact stop 0 out
  | succ k ih =>
    intro n out hn h64 hs
    rcases Nat.eq_zero_or_pos n with h0 | h0
    · subst h0
      exact stop _ out
    · refine ev_succ ?_
      simp only [cambistref19_Decimal.l0]
      refine ev_pos (by omega) (ev_opt rfl ?_)
      rw [ten_sign n h64, ten_rest n h64]
      refine ev_pos (by show 1 + out.size ≤ _; omega) ?_
      refine ev_eq ?_ (ih (n / 10) (⟨#[UInt8.ofNat (48 + n % 10)]⟩ ++ out) (by rw [Nat.pow_succ] at hn; omega) (by omega) (by rw [ByteArray.size_append]; show 1 + out.size + k ≤ 100; omega))
      congr 2
      rw [← front_next k n _ hn h0]
      simp
theorem ref_dec (n : Nat) (h : n < 18446744073709551616) : Ev (fun k => cambistref19_Decimal.f k (n : Int)) ⟨(decText n).toArray⟩ := by
  unfold cambistref19_Decimal.f
  rw [ten_sign _ h, ten_rest _ h]
  refine ev_eq ?_ (ref_dec_loop 19 (n / 10) ⟨#[UInt8.ofNat (48 + n % 10)]⟩ (by omega) (by omega) (by show 1 + 19 ≤ 100; decide))
  congr 2
  show front 19 (n / 10) [UInt8.ofNat (48 + n % 10)] = decText n
  unfold decText
  rw [decRec]
  unfold front
  by_cases h10 : n < 10
  · rw [if_pos (by omega), if_pos h10, Nat.mod_eq_of_lt h10]
    rfl
  · rw [if_neg (by omega), if_neg h10]
end Go.Proofs.YtdpdbmdnmgaeiaaDoor.E
