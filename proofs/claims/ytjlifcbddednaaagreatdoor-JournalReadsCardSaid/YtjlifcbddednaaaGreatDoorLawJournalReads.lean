/- What journal.Check answers of legs that fit. The document's answers of layer 12, and journal.Pairs, in plain words. An entry's pairs: what journal.Pairs and the document answer. What pairs begin with: the program and the document answer alike. Any pairs, read, and what someone got by them: the program and the document answer alike. The law JournalReads of the given program: the entries that any pairs are, and what someone got by them, are what the document says. -/
import Derived.Test.YtjlifcbddednaaaGreatDoorJPure
import Derived.Test.YtjlifcbddednaaaGreatDoorJCheck
import Derived.Test.YtjlifcbddednaaaGreatDoorRefJ
import Derived.Test.YtjlifcbddednaaaGreatDoorPx12
import Derived.Test.YtjlifcbddednaaaGreatDoorLib
import Derived.Test.YtjlifcbddednaaaGreatDoorPx15
import Derived.Test.YtjlifcbddednaaaGreatDoorPx13
import Derived.Test.YtjlifcbddednaaaGreatDoorPx4
import Derived.Test.YtjlifcbddednaaaGreatDoorPx9
import Derived.Test.YtjlifcbddednaaaGreatDoorPx7
import Derived.Test.YtjlifcbddednaaaGreatDoorPx5
import Derived.Test.YtjlifcbddednaaaGreatDoorPx13
import Derived.Test.YtjlifcbddednaaaGreatDoorJRefRead
import Derived.Test.YtjlifcbddednaaaGreatDoorJSum
import Derived.Test.YtjlifcbddednaaaGreatDoorPx6
import Derived.Test.YtjlifcbddednaaaGreatDoorPx14
import Derived.Test.YtjlifcbddednaaaGreatDoorAwake12
import Derived.Test.YtjlifcbddednaaaGreatDoorOpenJ
import Derived.Test.YtjlifcbddednaaaGreatDoorGlobAt
import Derived.WalkKit
import Derived.BigQuiet
import Derived.Deep.QuietTactic
import Derived.Lib.Hide
namespace Go.Proofs.YtjlifcbddednaaaGreatDoor.E
open Go.RowKit Go.Proofs.YtjlifcbddednaaaGreatDoor.P Go.Proofs.YtjlifcbddednaaaGreatDoorW.PrintWords Go.Proofs.YtjlifcbddednaaaGreatDoorW.PrintLast
theorem rd_leg (l : List Leg_) (i : Nat) (h : i < l.length) : rd_T36 l (i : Int) = l[i] := by
  unfold rd_T36
  rw [List.getD_eq_getElem?_getD, Int.toNat_natCast, List.getElem?_eq_getElem h]
  rfl
theorem drop_cons {α : Type} {l : List α} {i : Nat} (h : i < l.length) : l.drop i = l[i] :: l.drop (i + 1) := List.drop_eq_getElem_cons h
/-- What every entry's numbers are. -/
def ints64 (l : List Leg_) : Prop := ∀ g ∈ l, in64 g.f2
theorem check_some {n d : Int} {rq : ByteArray} {l : List Leg_} (hr : rq.size ≤ 140737488351232) (h : ∀ g ∈ l, g.f0.size ≤ 140737488351232 ∧ g.f1.size ≤ 140737488351232) (h64 : ints64 l) : journal_Check.f n d rq l = some (chkOf (checkB rq l)) := by
  unfold journal_Check.f
  refine if_pos ⟨decide_eq_true hr, fun g hg => ?_⟩
  unfold legIn
  rw [decide_eq_true (h g hg).1, decide_eq_true (h g hg).2, decide_eq_true (h64 g hg).1, decide_eq_true (h64 g hg).2]
  rfl
end Go.Proofs.YtjlifcbddednaaaGreatDoor.E
namespace Go.Proofs.YtjlifcbddednaaaGreatDoor.E
open Go.RowKit Go.Proofs.YtjlifcbddednaaaGreatDoor.P Go.Proofs.YtjlifcbddednaaaGreatDoorW.PrintWords Go.Proofs.YtjlifcbddednaaaGreatDoorW.PrintLast Go.Proofs.YtjlifcbddednaaaGreatDoorW.PrintMore
theorem same_text {a b : ByteArray} : a.toList = b.toList ↔ a = b := toList_inj
theorem zero_loop (l : List Leg_) (a : ByteArray) (hl : l.length ≤ 1000000) (h64 : ints64 l) : ∀ (m i : Nat), l.length - i = m → i ≤ l.length → Ev (fun k => cambistref12_zero.l0 k l a (amtsOf (l.take i) a) (i : Int)) (decide (sumI (amtsOf l a) = 0)) := by
  intro m
  induction m with
  | zero =>
    intro i hm hi
    obtain rfl : i = l.length := by omega
    refine ev_succ ?_
    simp only [cambistref12_zero.l0]
    rw [List.take_length]
    refine ev_neg (by omega) (ev_call (ref_sum _ (fun x hx => by obtain ⟨g, hg, _, e⟩ := amts_mem hx; exact e ▸ h64 g hg) (by have := amts_length l a; omega)) ?_)
    by_cases h : sumI (amtsOf l a) = 0
    · rw [h, out_zero]
      exact ev_pos (by first | rfl | trivial) (ev_some rfl)
    · rcases out_ne h with h1 | h1
      · exact ev_neg h1 (ev_some (by simp [h]))
      · by_cases h2 : (outOf (sumI (amtsOf l a))).1 = 0
        · refine ev_pos h2 (ev_some ?_)
          rw [beq_eq_false_iff_ne.2 h1]
          simp [h]
        · exact ev_neg h2 (ev_some (by simp [h]))
  | succ m ih =>
    intro i hm hi
    have hlt : i < l.length := by omega
    have hnx : amtsOf (l.take (i + 1)) a = amtsOf (l.take i) a ++ amtsOf [l[i]] a := by rw [List.take_succ_eq_append_getElem hlt, amts_app]
    have hln := amts_length (l.take i) a
    have hlt2 : (l.take i).length ≤ i := List.length_take_le ..
    refine ev_succ ?_
    simp only [cambistref12_zero.l0]
    rw [rd_leg l i hlt, wrap_small (by omega : i ≤ l.length) hl]
    refine ev_pos (by omega) (ev_pos (by omega) ?_)
    have hi := ih (i + 1) (by omega) (by omega)
    rw [hnx] at hi
    by_cases h : l[i].f1 = a
    · rw [amts_hit h] at hi
      exact ev_pos (same_text.2 h) (ev_pos (by omega) hi)
    · rw [amts_miss h, List.append_nil] at hi
      exact ev_neg (fun e => h (same_text.1 e)) hi
theorem zero_ev (l : List Leg_) (a : ByteArray) (hl : l.length ≤ 1000000) (h64 : ints64 l) : Ev (fun k => cambistref12_zero.f k l a) (decide (sumI (amtsOf l a) = 0)) := zero_loop l a hl h64 _ 0 rfl (by omega)
theorem rcheck_loop (n d : Int) (rq : ByteArray) (l : List Leg_) (hl : l.length ≤ 1000000) (h64 : ints64 l) (hs : ∀ g ∈ l, g.f0.size ≤ 140737488351232 ∧ g.f1.size ≤ 140737488351232) : ∀ (m i : Nat), l.length - i = m → i ≤ l.length →
    Ev (fun k => cambistref12_Check.l0 k (i : Int) n d rq l) (chkOf ((l.drop i).all fun g => legOk g && decide (sumI (amtsOf l g.f1) = 0))) := by
  intro m
  induction m with
  | zero =>
    intro i hm hi
    obtain rfl : i = l.length := by omega
    refine ev_succ ?_
    simp only [cambistref12_Check.l0]
    refine ev_neg (by omega) (ev_some (by simp [chkOf]))
  | succ m ih =>
    intro i hm hi
    have hlt : i < l.length := by omega
    have hm := hs _ (List.getElem_mem hlt)
    refine ev_succ ?_
    simp only [cambistref12_Check.l0]
    rw [rd_leg l i hlt, drop_cons hlt, List.all_cons]
    refine ev_pos (by omega) (ev_pos (by omega) (ev_call (ref_who _ hm.1) (ev_call (ref_asset _ hm.2) (ev_call (zero_ev l _ hl h64) ?_))))
    have hg : legOk l[i] = (isWho l[i].f0 && isPart isUp 6 l[i].f1 && decide (l[i].f2 ≠ 0)) := rfl
    rw [hg]
    cases h1 : isWho l[i].f0 with
    | false => exact ev_neg (by decide) (ev_some (by simp [chkOf]))
    | true =>
      refine ev_pos rfl ?_
      cases h2 : isPart isUp 6 l[i].f1 with
      | false => exact ev_neg (by decide) (ev_some (by simp [chkOf]))
      | true =>
        refine ev_pos rfl ?_
        by_cases h3 : l[i].f2 = 0
        · exact ev_pos h3 (ev_some (by simp [chkOf, h3]))
        · refine ev_neg h3 ?_
          by_cases h4 : sumI (amtsOf l l[i].f1) = 0
          · rw [decide_eq_true h4]
            refine ev_pos rfl ?_
            rw [wrap_small (by omega : i ≤ l.length) hl]
            refine ev_eq ?_ (ih (i + 1) (by omega) (by omega))
            simp [h3]
          · rw [decide_eq_false h4]
            exact ev_neg (by decide) (ev_some (by simp [chkOf]))
theorem rcheck_ev (n d : Int) (rq : ByteArray) (l : List Leg_) (hl : l.length ≤ 1000000) (h64 : ints64 l) (hr : rq.size ≤ 140737488351232) (hs : ∀ g ∈ l, g.f0.size ≤ 140737488351232 ∧ g.f1.size ≤ 140737488351232) :
    Ev (fun k => cambistref12_Check.f k n d rq l) (chkOf (checkB rq l)) := by
  unfold cambistref12_Check.f
  have bad : checkB rq l = false → Ev (fun k => cambistref12_Check.j0 k true n d rq l) (chkOf (checkB rq l)) := fun h => by
    refine ev_succ ?_
    simp only [cambistref12_Check.j0]
    exact ev_pos (by first | rfl | trivial) (ev_some (by rw [h]; rfl))
  refine ev_call (ref_word rq hr) ?_
  cases h0 : isPart isSign 12 rq with
  | false => exact ev_neg (by decide) (bad (by unfold checkB; rw [h0]; simp))
  | true =>
    refine ev_pos rfl ?_
    by_cases h1 : l.length < 2
    · exact ev_pos (by omega) (bad (by unfold checkB; rw [decide_eq_false (by omega : ¬ 2 ≤ l.length)]; simp))
    · refine ev_neg (by omega) ?_
      by_cases h2 : 200 < l.length
      · rw [decide_eq_true (by omega : (l.length : Int) > 200)]
        exact bad (by unfold checkB; rw [decide_eq_false (by omega : ¬ l.length ≤ 200)]; simp)
      · rw [decide_eq_false (by omega : ¬ (l.length : Int) > 200)]
        refine ev_succ ?_
        simp only [cambistref12_Check.j0]
        refine ev_neg (by decide) (ev_eq ?_ (rcheck_loop n d rq l hl h64 hs _ 0 rfl (by omega)))
        unfold checkB
        rw [h0, decide_eq_true (by omega : 2 ≤ l.length), decide_eq_true (by omega : l.length ≤ 200)]
        congr 1
        rw [List.drop_zero]
        simp only [Bool.true_and, Bool.and_true]
        rw [Bool.eq_iff_iff]
        simp only [Bool.and_eq_true, List.all_eq_true]
        exact ⟨fun h => ⟨fun g hg => (h g hg).1, fun g hg => (h g hg).2⟩, fun h g hg => ⟨h.1 g hg, h.2 g hg⟩⟩
end Go.Proofs.YtjlifcbddednaaaGreatDoor.E
namespace Go.Proofs.YtjlifcbddednaaaGreatDoor.E
open Go.RowKit Go.Proofs.YtjlifcbddednaaaGreatDoor.P Go.Proofs.YtjlifcbddednaaaGreatDoorW.PrintWords Go.Proofs.YtjlifcbddednaaaGreatDoorW.PrintLast Go.Proofs.YtjlifcbddednaaaGreatDoorW.PrintMore
abbrev Pair_ := S26
def bar : ByteArray := ⟨#[124]⟩
def keyAt (n : Nat) (p : ByteArray) : ByteArray := (keyOf 101 [digitsOf n, p]).1
def placeOf (i : Nat) : ByteArray := (⟨#[49]⟩ : ByteArray) ++ ((digitsOf i).extract 12 (digitsOf i).size)
def amountOf (a : Int) : ByteArray := ⟨(intText a).toArray⟩
def pairLeg (n i : Nat) (g : Leg_) : Pair_ := ⟨keyAt n (placeOf i), g.f0 ++ bar ++ g.f1 ++ bar ++ amountOf g.f2⟩
def legsFrom (n : Nat) : Nat → List Leg_ → List Pair_
  | _, [] => []
  | i, g :: t => pairLeg n i g :: legsFrom n (i + 1) t
def pairHead (n d : Nat) (rq : ByteArray) (l : List Leg_) : Pair_ := ⟨keyAt n ⟨#[48]⟩, digitsOf d ++ bar ++ rq ++ bar ++ amountOf (l.length : Int)⟩
def pairsOf (n d : Nat) (rq : ByteArray) (l : List Leg_) : List Pair_ := pairHead n d rq l :: legsFrom n 0 l
def pairsTo (n d : Nat) (rq : ByteArray) (l : List Leg_) : List Pair_ × Int := if checkB rq l = true then (pairsOf n d rq l, 0) else ([], 120)
theorem size_app (a b : ByteArray) : (a ++ b).size = a.size + b.size := ByteArray.size_append
theorem join3 (a b c : ByteArray) : joinB [a, b, c] bar = a ++ bar ++ b ++ bar ++ c := by
  apply text_ext
  unfold joinB bar
  simp [Lib.join, ByteArray.data_append]
theorem text_size {a : Int} (h : in64 a) : (amountOf a).size ≤ 21 := by
  have h1 := h.1
  have h2 := h.2
  have hs : (amountOf a).size = (intText a).length := by unfold amountOf; exact List.size_toArray
  rw [hs]
  unfold intText
  split
  · have := (decText_facts a.natAbs (by omega)).2.2.2
    simp only [List.length_cons]
    omega
  · have := (decText_facts a.toNat (by omega)).2.2.2
    omega
theorem join_some {a b c : ByteArray} (ha : a.size ≤ 1000) (hb : b.size ≤ 1000) (hc : c.size ≤ 1000) : strings_Join.f [a, b, c] (⟨#[124]⟩ : ByteArray) = some (a ++ bar ++ b ++ bar ++ c) := by
  have e := join3 a b c
  unfold strings_Join.f
  have hl : (Lib.join ([a, b, c].map (·.data.toList)) (⟨#[124]⟩ : ByteArray).data.toList).length = (a ++ bar ++ b ++ bar ++ c).size := by
    rw [← e]
    unfold joinB bar
    exact List.size_toArray.symm
  rw [if_pos ⟨by simp, by rw [hl]; simp only [size_app]; have : bar.size = 1 := rfl; omega⟩]
  exact congrArg some e
theorem place_size (i : Nat) : (placeOf i).size = 5 := by
  unfold placeOf
  rw [size_app, ByteArray.size_extract, digitsOf_size]
  rfl
theorem pair_ev (n : Nat) (hn : n < 18446744073709551616) (p : ByteArray) (hp : p.size ≤ 1000) {l2 : List ByteArray} {r : ByteArray} (h : strings_Join.f l2 (⟨#[124]⟩ : ByteArray) = some r) : Ev (fun k => journal_pair.f k (n : Int) p l2) (keyAt n p, r) := by
  unfold journal_pair.f
  refine ev_opt (digits_some n hn) (ev_call (key_some 101 _ (fun q hq => ?_)) (ev_opt h (ev_some rfl)))
  rcases List.mem_cons.1 hq with rfl | hq
  · rw [digitsOf_size]
    omega
  · rw [List.mem_singleton.1 hq]
    omega
theorem rkey_ev (n : Nat) (p : ByteArray) (hp : p.size ≤ 1000) : Ev (fun k => cambistref02_Key.f k 101 [digitsOf n, p]) (keyOf 101 [digitsOf n, p]) := ref_key 101 _ (fun q hq => by
  rcases List.mem_cons.1 hq with rfl | hq
  · rw [digitsOf_size]
    omega
  · rw [List.mem_singleton.1 hq]
    omega)
theorem wrap_u (i : Nat) (h : i ≤ 1000000) : IntKind.u64.wrap (i : Int) = (i : Int) := by
  rw [IntKind.wrap_u64]
  omega
theorem pairs_loop (n d : Nat) (hn : n < 18446744073709551616) (rq : ByteArray) (l : List Leg_) (hl : l.length ≤ 1000) (hs : ∀ g ∈ l, g.f0.size ≤ 1000 ∧ g.f1.size ≤ 1000) (h64 : ints64 l) : ∀ (m i : Nat) (acc : List Pair_), l.length - i = m → i ≤ l.length → acc.length = i + 1 →
    Ev (fun k => journal_Pairs.l0 k acc l (l.length : Int) (i : Int) (n : Int) (d : Int) rq l) (acc ++ legsFrom n i (l.drop i), 0) := by
  intro m
  induction m with
  | zero =>
    intro i acc hm hi ha
    obtain rfl : i = l.length := by omega
    refine ev_succ ?_
    simp only [journal_Pairs.l0]
    refine ev_neg (by omega) (ev_some ?_)
    rw [List.drop_length]
    simp [legsFrom]
  | succ m ih =>
    intro i acc hm hi ha
    have hlt : i < l.length := by omega
    have hg := hs _ (List.getElem_mem hlt)
    have h6 := h64 _ (List.getElem_mem hlt)
    refine ev_succ ?_
    simp only [journal_Pairs.l0]
    rw [rd_leg l i hlt, wrap_u i (by omega), drop_cons hlt]
    refine ev_pos (by omega) (ev_pos (by omega) (ev_pos (by omega) (ev_opt (digits_some i (by omega)) ?_)))
    have hx : ((digitsOf i).extract 12 (digitsOf i).size).size = 4 := by rw [ByteArray.size_extract, digitsOf_size]; rfl
    refine ev_pos (by rw [digitsOf_size]; decide) (ev_pos (by rw [hx]; decide) (ev_opt (text_some h6) (ev_call (pair_ev n hn (placeOf i) (by rw [place_size]; decide) (join_some hg.1 hg.2 (Nat.le_trans (text_size h6) (by decide)))) (ev_pos (by omega) ?_))))
    rw [wrap_small (by omega : i ≤ l.length) (by omega)]
    refine ev_eq ?_ (ih (i + 1) (acc ++ [pairLeg n i l[i]]) (by omega) (by omega) (by simp; omega))
    simp [legsFrom]
theorem pairs_ev (n d : Nat) (hn : n < 18446744073709551616) (hd : d < 18446744073709551616) (rq : ByteArray) (l : List Leg_) (hl : l.length ≤ 1000) (hr : rq.size ≤ 1000) (hs : ∀ g ∈ l, g.f0.size ≤ 1000 ∧ g.f1.size ≤ 1000) (h64 : ints64 l) :
    Ev (fun k => journal_Pairs.f k (n : Int) (d : Int) rq l) (pairsTo n d rq l) := by
  unfold journal_Pairs.f
  refine ev_opt (check_some (by omega) (fun g hg => ⟨Nat.le_trans (hs g hg).1 (by decide), Nat.le_trans (hs g hg).2 (by decide)⟩) h64) ?_
  unfold pairsTo
  cases hc : checkB rq l with
  | false =>
    refine ev_neg (by decide) (ev_some ?_)
    rfl
  | true =>
    have h6 : in64 (l.length : Int) := by unfold in64; omega
    refine ev_pos (by decide) (ev_opt (digits_some d hd) (ev_opt (text_some h6) (ev_call (pair_ev n hn ⟨#[48]⟩ (by decide) (join_some (by rw [digitsOf_size]; decide) hr (Nat.le_trans (text_size h6) (by decide)))) ?_)))
    exact pairs_loop n d hn rq l hl hs h64 _ 0 [pairHead n d rq l] rfl (by omega) rfl
theorem ref_pairs_loop (n d : Nat) (rq : ByteArray) (l : List Leg_) (hl : l.length ≤ 1000) (hs : ∀ g ∈ l, g.f0.size ≤ 1000 ∧ g.f1.size ≤ 1000) (h64 : ints64 l) : ∀ (m i : Nat) (acc : List Pair_), l.length - i = m → i ≤ l.length → acc.length = i + 1 →
    Ev (fun k => cambistref12_Pairs.l0 k (digitsOf n) acc (i : Int) (n : Int) (d : Int) rq l) (acc ++ legsFrom n i (l.drop i), 0) := by
  intro m
  induction m with
  | zero =>
    intro i acc hm hi ha
    obtain rfl : i = l.length := by omega
    refine ev_succ ?_
    simp only [cambistref12_Pairs.l0]
    refine ev_neg (by omega) (ev_some ?_)
    rw [List.drop_length]
    simp [legsFrom]
  | succ m ih =>
    intro i acc hm hi ha
    have hlt : i < l.length := by omega
    have hg := hs _ (List.getElem_mem hlt)
    have h6 := h64 _ (List.getElem_mem hlt)
    have ht := text_size h6
    have hx : ((digitsOf i).extract 12 (digitsOf i).size).size = 4 := by rw [ByteArray.size_extract, digitsOf_size]; rfl
    have hb : (⟨#[124]⟩ : ByteArray).size = 1 := rfl
    refine ev_succ ?_
    simp only [cambistref12_Pairs.l0]
    rw [rd_leg l i hlt, wrap_u i (by omega), drop_cons hlt]
    refine ev_pos (by omega) (ev_pos (by omega) (ev_call (ref_digits i (by omega)) (ev_pos (by rw [digitsOf_size]; decide) (ev_pos (by rw [hx]; decide) (ev_call (rkey_ev n (placeOf i) (by rw [place_size]; decide)) ?_)))))
    refine ev_pos (by omega) (ev_pos (by simp only [size_app]; omega) (ev_pos (by simp only [size_app]; omega) (ev_call (ref_text h6) (ev_pos (by simp only [size_app]; have : (⟨(intText l[i].f2).toArray⟩ : ByteArray).size ≤ 21 := ht; omega) (ev_pos (by omega) ?_)))))
    rw [wrap_small (by omega : i ≤ l.length) (by omega)]
    refine ev_eq ?_ (ih (i + 1) (acc ++ [pairLeg n i l[i]]) (by omega) (by omega) (by simp; omega))
    simp [legsFrom]
theorem ref_pairs_ev (n d : Nat) (hn : n < 18446744073709551616) (hd : d < 18446744073709551616) (rq : ByteArray) (l : List Leg_) (hl : l.length ≤ 1000) (hr : rq.size ≤ 1000) (hs : ∀ g ∈ l, g.f0.size ≤ 1000 ∧ g.f1.size ≤ 1000) (h64 : ints64 l) :
    Ev (fun k => cambistref12_Pairs.f k (n : Int) (d : Int) rq l) (pairsTo n d rq l) := by
  unfold cambistref12_Pairs.f
  refine ev_call (rcheck_ev n d rq l (by omega) h64 (by omega) (fun g hg => ⟨Nat.le_trans (hs g hg).1 (by decide), Nat.le_trans (hs g hg).2 (by decide)⟩)) ?_
  unfold pairsTo
  cases hc : checkB rq l with
  | false =>
    refine ev_neg (by decide) (ev_some ?_)
    rfl
  | true =>
    have h6 : in64 (l.length : Int) := by unfold in64; omega
    have ht := text_size h6
    have hb : (⟨#[124]⟩ : ByteArray).size = 1 := rfl
    have hds := digitsOf_size d
    refine ev_pos (by decide) (ev_call (ref_digits n hn) (ev_call (rkey_ev n ⟨#[48]⟩ (by decide)) (ev_call (ref_digits d hd) ?_)))
    refine ev_pos (by omega) (ev_pos (by simp only [size_app]; omega) (ev_pos (by simp only [size_app]; omega) (ev_call (ref_text h6) (ev_pos (by simp only [size_app]; have : (⟨(intText (l.length : Int)).toArray⟩ : ByteArray).size ≤ 21 := ht; omega) ?_))))
    exact ref_pairs_loop n d rq l hl hs h64 _ 0 [pairHead n d rq l] rfl (by omega) rfl
theorem rd_pair (l : List Pair_) (i : Nat) (h : i < l.length) : rd_T26 l (i : Int) = l[i] := by
  unfold rd_T26
  rw [List.getD_eq_getElem?_getD, Int.toNat_natCast, List.getElem?_eq_getElem h]
  rfl
theorem legsFrom_length (n : Nat) : ∀ (l : List Leg_) (i : Nat), (legsFrom n i l).length = l.length
  | [], _ => rfl
  | _ :: t, i => by simp [legsFrom, legsFrom_length n t (i + 1)]
theorem pairsTo_length (n d : Nat) (rq : ByteArray) (l : List Leg_) : (pairsTo n d rq l).1.length ≤ l.length + 1 := by
  unfold pairsTo
  split
  · simp [pairsOf, legsFrom_length]
  · simp
end Go.Proofs.YtjlifcbddednaaaGreatDoor.E
namespace Go.Proofs.YtjlifcbddednaaaGreatDoor.E
open Go.RowKit Go.Proofs.YtjlifcbddednaaaGreatDoor.P Go.Proofs.YtjlifcbddednaaaGreatDoorW.PrintWords Go.Proofs.YtjlifcbddednaaaGreatDoorW.PrintLast
/-- Pieces, the first of them behind what stands before it. -/
def glue (last : List UInt8) : List (List UInt8) → List ByteArray
  | [] => []
  | h :: t => ⟨(last ++ h).toArray⟩ :: t.map fun l => ⟨l.toArray⟩
theorem glue_nil (L : List (List UInt8)) : glue [] L = L.map fun l => ⟨l.toArray⟩ := by cases L <;> rfl
theorem ref_parts_loop (s : ByteArray) (hs : s.size ≤ 1000000) : ∀ (m i : Nat) (acc : List ByteArray) (last : ByteArray), s.size - i = m → i ≤ s.size → acc.length ≤ i → last.size ≤ i →
    Ev (fun k => cambistref12_Parts.l0 k s acc last (i : Int)) (acc ++ glue last.data.toList (cutAt 124 (s.data.toList.drop i))) := by
  have hlen := size_len s
  intro m
  induction m with
  | zero =>
    intro i acc last hm hi ha hl
    obtain rfl : i = s.size := by omega
    have he : s.data.toList.drop s.size = [] := List.drop_of_length_le (by omega)
    rw [he]
    refine ev_succ ?_
    simp only [cambistref12_Parts.l0]
    refine ev_neg (by omega) (ev_pos (by omega) (ev_some ?_))
    exact congrArg (fun x => acc ++ [x]) (text_ext (by simp) : last = (⟨(last.data.toList ++ []).toArray⟩ : ByteArray))
  | succ m ih =>
    intro i acc last hm hi ha hl
    have hlt : i < s.data.toList.length := by omega
    have hdr : s.data.toList.drop i = s.data.toList[i] :: s.data.toList.drop (i + 1) := List.drop_eq_getElem_cons hlt
    refine ev_succ ?_
    simp only [cambistref12_Parts.l0]
    rw [bt_get s i hlt, wrap_next (n := s.size) hi (by omega), Int.toNat_natCast, Int.toNat_natCast]
    have hx : (s.extract i (i + 1)).data.toList = [s.data.toList[i]] := by
      rw [ByteArray.data_extract, Array.toList_extract]
      unfold List.extract
      rw [hdr, show i + 1 - i = 1 by omega]
      rfl
    have hxs : (s.extract i (i + 1)).size = 1 := by rw [← size_len, hx]; rfl
    rw [hdr]
    generalize s.data.toList[i] = c at *
    refine ev_pos (by omega) (ev_pos (by omega) ?_)
    by_cases hc : c = 124
    · subst hc
      refine ev_pos rfl (ev_pos (by omega) ?_)
      refine ev_eq ?_ (ih (i + 1) (acc ++ [last]) ⟨#[]⟩ (by omega) (by omega) (by simp; omega) (by show 0 ≤ _; omega))
      rw [cutAt_cons_eq]
      rw [List.append_assoc]
      show acc ++ (last :: glue [] (cutAt 124 (s.data.toList.drop (i + 1)))) = acc ++ (⟨(last.data.toList ++ []).toArray⟩ :: (cutAt 124 (s.data.toList.drop (i + 1))).map fun l => ⟨l.toArray⟩)
      rw [glue_nil]
      exact congrArg (fun x => acc ++ (x :: _)) (text_ext (by simp) : last = (⟨(last.data.toList ++ []).toArray⟩ : ByteArray))
    · refine ev_neg (fun e => hc (by
        have e2 : c.toNat = 124 := by omega
        exact UInt8.toNat_inj.1 e2)) (ev_pos (by omega) (ev_pos (by omega) (ev_pos (by rw [hxs]; omega) ?_)))
      refine ev_eq ?_ (ih (i + 1) acc (last ++ s.extract i (i + 1)) (by omega) (by omega) (by omega) (by rw [size_app, hxs]; omega))
      obtain ⟨x, r, e1, e2⟩ := cutAt_cons_ne hc (s.data.toList.drop (i + 1))
      rw [e1, e2, ByteArray.data_append, Array.toList_append, hx]
      show acc ++ (⟨((last.data.toList ++ [c]) ++ x).toArray⟩ :: _) = acc ++ (⟨(last.data.toList ++ (c :: x)).toArray⟩ :: _)
      rw [List.append_assoc]
      rfl
theorem ref_parts (s : ByteArray) (hs : s.size ≤ 1000000) : Ev (fun k => cambistref12_Parts.f k s) (splitOn s 124) := by
  refine ev_eq ?_ (ref_parts_loop s hs _ 0 [] ⟨#[]⟩ rfl (Nat.zero_le _) (Nat.le_refl _) (Nat.le_refl _))
  exact glue_nil _
theorem split_is (s : ByteArray) (hs : s.size ≤ 1000000) : strings_Split.f s (⟨#[124]⟩ : ByteArray) = some (splitOn s 124) := by
  unfold strings_Split.f
  rw [if_pos (by omega)]
theorem cutAt_sizes (c : UInt8) : ∀ (l : List UInt8), ∀ x ∈ cutAt c l, x.length ≤ l.length
  | [], x, h => by
    rw [List.mem_singleton.1 h]
    exact Nat.le_refl _
  | b :: l, x, h => by
    have ih := cutAt_sizes c l
    by_cases hb : b = c
    · subst hb
      rw [cutAt_cons_eq] at h
      rcases List.mem_cons.1 h with rfl | h
      · exact Nat.zero_le _
      · have := ih x h
        simp only [List.length_cons]
        omega
    · obtain ⟨y, t, e1, e2⟩ := cutAt_cons_ne hb l
      rw [e2] at h
      rw [e1] at ih
      rcases List.mem_cons.1 h with rfl | h
      · have := ih y (List.mem_cons_self ..)
        simp only [List.length_cons]
        omega
      · have := ih x (List.mem_cons_of_mem _ h)
        simp only [List.length_cons]
        omega
theorem split_sizes {s x : ByteArray} (h : x ∈ splitOn s 124) : x.size ≤ s.size := by
  unfold splitOn at h
  obtain ⟨l, hl, rfl⟩ := List.mem_map.1 h
  have := cutAt_sizes 124 _ l hl
  rw [size_len] at this
  show l.toArray.size ≤ _
  simpa using this
/-- What a name of sixteen digits says. -/
def numR (s : ByteArray) : Int × Int := (if s.size = 16 ∧ hexAll s.data.toList = true then ((numFold s.data.toList : Nat) : Int) else 0, if s.size = 16 ∧ hexAll s.data.toList = true then (0 : Int) else 20)
theorem num_is (s : ByteArray) : label_Number.f s = some (numR s) := number_some s
theorem num_ref (s : ByteArray) : Ev (fun k => cambistref02_Number.f k s) (numR s) := ref_number s
theorem numR_ok {s : ByteArray} (h : (numR s).2 = 0) : ∃ n : Nat, n < 18446744073709551616 ∧ (numR s).1 = (n : Int) := by
  unfold numR at h ⊢
  by_cases hc : s.size = 16 ∧ hexAll s.data.toList = true
  · refine ⟨numFold s.data.toList, ?_, if_pos hc⟩
    have := numFold_lt s.data.toList
    rw [size_len, hc.1] at this
    exact this
  · simp only [if_neg hc] at h
    omega
theorem parse_ok {l : List UInt8} (h : (parseOf l).2 = 0) : in64 (parseOf l).1 := by
  rcases parseOf_cases l with ⟨v, hv, _, e⟩ | ⟨_, e⟩
  · rw [e]; exact hv
  · rw [e] at h; cases h
/-- The leg that a value is. -/
def legOf : List ByteArray → Option Leg_
  | [a, b, c] => if (parseOf c.data.toList).2 = 0 then some ⟨a, b, (parseOf c.data.toList).1⟩ else none
  | _ => none
theorem legOf_no : ∀ (t : List ByteArray), t.length ≠ 3 → legOf t = none
  | [], _ => rfl
  | [_], _ => rfl
  | [_, _], _ => rfl
  | [_, _, _], h => absurd rfl h
  | _ :: _ :: _ :: _ :: _, _ => rfl
theorem three {t : List ByteArray} (h : t.length = 3) : ∃ a b c, t = [a, b, c] := by
  match t, h with
  | [a, b, c], _ => exact ⟨a, b, c, rfl⟩
def legV (p : Pair_) : Option Leg_ := legOf (splitOn p.f1 124)
def legsV : List Pair_ → Option (List Leg_)
  | [] => some []
  | p :: t => (legV p).bind fun g => (legsV t).map (g :: ·)
theorem legV_ok {p : Pair_} {g : Leg_} (hp : p.f1.size ≤ 200) (h : legV p = some g) : g.f0.size ≤ 200 ∧ g.f1.size ≤ 200 ∧ in64 g.f2 := by
  unfold legV at h
  have hz : ∀ x ∈ splitOn p.f1 124, x.size ≤ 200 := fun x hx => Nat.le_trans (split_sizes hx) hp
  generalize splitOn p.f1 124 = t at h hz
  by_cases ht : t.length = 3
  · obtain ⟨a, b, c, rfl⟩ := three ht
    rw [show legOf [a, b, c] = if (parseOf c.data.toList).2 = 0 then some ⟨a, b, (parseOf c.data.toList).1⟩ else none from rfl] at h
    split at h
    · rename_i hc
      obtain rfl := Option.some.inj h
      exact ⟨hz a (by simp), hz b (by simp), parse_ok hc⟩
    · cases h
  · rw [legOf_no t ht] at h
    cases h
theorem legsV_ok : ∀ {L : List Pair_} {gs : List Leg_}, (∀ p ∈ L, p.f1.size ≤ 200) → legsV L = some gs → gs.length = L.length ∧ ∀ g ∈ gs, g.f0.size ≤ 200 ∧ g.f1.size ≤ 200 ∧ in64 g.f2
  | [], gs, _, h => by
    obtain rfl := Option.some.inj h
    exact ⟨rfl, fun g hg => by cases hg⟩
  | p :: t, gs, hs, h => by
    unfold legsV at h
    obtain ⟨g, hg, h⟩ := Option.bind_eq_some_iff.1 h
    obtain ⟨r, hr, rfl⟩ := Option.map_eq_some_iff.1 h
    obtain ⟨i1, i2⟩ := legsV_ok (fun p hp => hs p (List.mem_cons_of_mem _ hp)) hr
    refine ⟨by simp [i1], fun x hx => ?_⟩
    rcases List.mem_cons.1 hx with rfl | hx
    · exact legV_ok (hs p (List.mem_cons_self ..)) hg
    · exact i2 x hx
/-- journal.leg of any pair. -/
theorem leg_is (p : Pair_) (hp : p.f1.size ≤ 200) : (∃ g, legV p = some g ∧ journal_leg.f p.f0 p.f1 = some (g.f0, g.f1, g.f2, true)) ∨ (legV p = none ∧ ∃ a b n, journal_leg.f p.f0 p.f1 = some (a, b, n, false)) := by
  have hz : ∀ x ∈ splitOn p.f1 124, x.size ≤ 200 := fun x hx => Nat.le_trans (split_sizes hx) hp
  unfold journal_leg.f legV
  rw [split_is p.f1 (by omega), Option.bind_some]
  generalize splitOn p.f1 124 = t at hz ⊢
  by_cases ht : t.length = 3
  · obtain ⟨a, b, c, rfl⟩ := three ht
    rw [if_pos (by simp), if_pos (by simp)]
    have e : rdOf ByteArray.empty [a, b, c] 2 = c := rfl
    rw [e, parse_some c (by have := hz c (by simp); omega), Option.bind_some, if_pos (by simp), if_pos (by simp)]
    rw [show legOf [a, b, c] = if (parseOf c.data.toList).2 = 0 then some ⟨a, b, (parseOf c.data.toList).1⟩ else none from rfl]
    by_cases hc : (parseOf c.data.toList).2 = 0
    · rw [if_pos hc]
      refine .inl ⟨_, rfl, ?_⟩
      rw [hc]
      rfl
    · rw [if_neg hc]
      refine .inr ⟨rfl, a, b, (parseOf c.data.toList).1, ?_⟩
      rw [beq_eq_false_iff_ne.2 hc]
      rfl
  · rw [if_neg (by omega)]
    exact .inr ⟨legOf_no t ht, _, _, _, rfl⟩
/-- The legs that the program reads. -/
theorem first_legs (n d : Int) (rq : ByteArray) (c : Int) (hc : wrap64 (1 + c) = 1 + c) (L : List Pair_) (hl : L.length ≤ 1000000) (hs : ∀ p ∈ L, p.f1.size ≤ 200) : ∀ (m i : Nat) (acc : List Leg_), L.length - i = m → i ≤ L.length → acc.length = i →
    (∃ gs, legsV (L.drop i) = some gs ∧ Ev (fun k => journal_first.l0 k c L (L.length : Int) (i : Int) n d rq acc) (n, d, rq, acc ++ gs, 1 + c, true)) ∨ (legsV (L.drop i) = none ∧ ∃ r : Int × Int × ByteArray × List Leg_ × Int × Bool, r.2.2.2.2.2 = false ∧ Ev (fun k => journal_first.l0 k c L (L.length : Int) (i : Int) n d rq acc) r) := by
  intro m
  induction m with
  | zero =>
    intro i acc hm hi ha
    obtain rfl : i = L.length := by omega
    refine .inl ⟨[], by rw [List.drop_length]; rfl, ev_succ ?_⟩
    simp only [journal_first.l0]
    refine ev_neg (by omega) (ev_some ?_)
    rw [hc, List.append_nil]
  | succ m ih =>
    intro i acc hm hi ha
    have hlt : i < L.length := by omega
    have hd : L.drop i = L[i] :: L.drop (i + 1) := List.drop_eq_getElem_cons hlt
    rw [hd]
    have hp := hs _ (List.getElem_mem hlt)
    rcases leg_is L[i] hp with ⟨g, hg, hlg⟩ | ⟨hg, a, b, v, hlg⟩
    · rcases ih (i + 1) (acc ++ [g]) (by omega) (by omega) (by simp [ha]) with ⟨gs, h1, h2⟩ | ⟨h1, r, h2, h3⟩
      · refine .inl ⟨g :: gs, by unfold legsV; rw [hg, h1]; rfl, ev_succ ?_⟩
        simp only [journal_first.l0]
        rw [rd_pair L i hlt, wrap_small (by omega : i ≤ L.length) hl]
        refine ev_pos (by omega) (ev_pos (by omega) (ev_pos (by omega) (ev_opt hlg (ev_pos rfl (ev_pos (by omega) (ev_eq ?_ h2))))))
        simp
      · refine .inr ⟨by unfold legsV; rw [hg, h1]; rfl, r, h2, ev_succ ?_⟩
        simp only [journal_first.l0]
        rw [rd_pair L i hlt, wrap_small (by omega : i ≤ L.length) hl]
        exact ev_pos (by omega) (ev_pos (by omega) (ev_pos (by omega) (ev_opt hlg (ev_pos rfl (ev_pos (by omega) h3)))))
    · refine .inr ⟨by unfold legsV; rw [hg]; rfl, (n, d, rq, acc, 0, false), rfl, ev_succ ?_⟩
      simp only [journal_first.l0]
      rw [rd_pair L i hlt]
      exact ev_pos (by omega) (ev_pos (by omega) (ev_pos (by omega) (ev_opt hlg (ev_neg (by simp) (ev_some rfl)))))
/-- The legs that the document reads. -/
theorem guess_legs (n d : Int) (rq : ByteArray) (L : List Pair_) (c : Nat) (hcl : c + 1 ≤ L.length) (hl : L.length ≤ 1000000) (hs : ∀ p ∈ L, p.f1.size ≤ 200) : ∀ (m i : Nat) (acc : List Leg_), c + 1 - i = m → i ≤ c + 1 → acc.length ≤ i →
    Ev (fun k => cambistref12_guess.l0 k L (c : Int) (i : Int) n d rq acc) (match legsV ((L.take (c + 1)).drop i) with | some gs => (n, d, rq, acc ++ gs, 1 + (c : Int), true) | none => (0, 0, ⟨#[]⟩, [], 0, false)) := by
  intro m
  induction m with
  | zero =>
    intro i acc hm hi ha
    obtain rfl : i = c + 1 := by omega
    have e : (L.take (c + 1)).drop (c + 1) = [] := List.drop_of_length_le (List.length_take_le ..)
    rw [e]
    refine ev_succ ?_
    simp only [cambistref12_guess.l0]
    refine ev_neg (by omega) (ev_some ?_)
    rw [wrap_in (by omega) (by omega), Int.add_comm]
    simp [legsV]
  | succ m ih =>
    intro i acc hm hi ha
    have hlt : i < (L.take (c + 1)).length := by rw [List.length_take]; omega
    have hlt2 : i < L.length := by omega
    have hd : (L.take (c + 1)).drop i = L[i] :: (L.take (c + 1)).drop (i + 1) := by
      rw [List.drop_eq_getElem_cons hlt, List.getElem_take]
    have hp := hs _ (List.getElem_mem hlt2)
    rw [hd]
    refine ev_succ ?_
    simp only [cambistref12_guess.l0]
    rw [rd_pair L i hlt2, wrap_small (by omega : i ≤ L.length) hl]
    refine ev_pos (by omega) (ev_pos (by omega) (ev_pos (by omega) (ev_call (ref_parts _ (by omega)) ?_)))
    have hz : ∀ x ∈ splitOn L[i].f1 124, x.size ≤ 200 := fun x hx => Nat.le_trans (split_sizes hx) hp
    have hv : legV L[i] = legOf (splitOn L[i].f1 124) := rfl
    unfold legsV
    rw [hv]
    generalize splitOn L[i].f1 124 = t at hz ⊢
    by_cases ht : t.length = 3
    · obtain ⟨a, b, v, rfl⟩ := three ht
      refine ev_pos rfl (ev_pos (by simp) (ev_call (ref_parse _) ?_))
      have e : rdOf ByteArray.empty [a, b, v] 2 = v := rfl
      rw [e]
      by_cases hq : (parseOf v.data.toList).2 = 0
      · refine ev_pos hq (ev_pos (by simp) (ev_pos (by simp) (ev_pos (by omega) ?_)))
        have hlo : legOf [a, b, v] = some ⟨a, b, (parseOf v.data.toList).1⟩ := if_pos hq
        rw [hlo]
        refine ev_eq ?_ (ih (i + 1) (acc ++ [⟨a, b, (parseOf v.data.toList).1⟩]) (by omega) (by omega) (by simp; omega))
        cases legsV ((L.take (c + 1)).drop (i + 1)) with
        | none => rfl
        | some gs => simp
      · have hlo : legOf [a, b, v] = none := if_neg hq
        rw [hlo]
        exact ev_neg hq (ev_some rfl)
    · rw [legOf_no t ht]
      exact ev_neg (by omega) (ev_some rfl)
theorem ev_chain {α : Type} {g : Nat → Bool → Option α} {r : α} {A B C D X : Int} (h : Ev (fun k => g k (!(decide (A = 0)) || !(decide (B = 0)) || !(decide (C = 0)) || decide (D < 0) || decide (D > X))) r) :
    Ev (fun k => if A = 0 then (if B = 0 then (if C = 0 then (if D < 0 then g k true else g k (decide (D > X))) else g k true) else g k true) else g k true) r := by
  by_cases a : A = 0 <;> by_cases b : B = 0 <;> by_cases c : C = 0 <;> by_cases d : D < 0 <;> simpa [a, b, c, d] using h
abbrev FirstR := Int × Int × ByteArray × List Leg_ × Int × Bool
theorem y_len {α : Type} (L : List α) (c : Nat) (h : c + 1 ≤ L.length) : ((L.take (c + 1)).drop 1).length = c := by rw [List.length_drop, List.length_take]; omega
theorem both_j1 (L : List Pair_) (hl : L.length ≤ 1000000) (hs : ∀ p ∈ L, p.f1.size ≤ 200) (c n d : Nat) (hcl : c + 1 ≤ L.length) (v0 v1 v2 : ByteArray) :
    (∃ gs : List Leg_, gs.length = c ∧ (∀ g ∈ gs, g.f0.size ≤ 200 ∧ g.f1.size ≤ 200 ∧ in64 g.f2) ∧ Ev (fun k => journal_first.j1 k L (c : Int) false (n : Int) (d : Int) v1) ((n : Int), (d : Int), v1, gs, 1 + (gs.length : Int), true) ∧
      Ev (fun k => cambistref12_guess.j1 k L [v0, v1, v2] (n : Int) (d : Int) (c : Int) false) ((n : Int), (d : Int), v1, gs, 1 + (gs.length : Int), true)) ∨
    (∃ r s : FirstR, r.2.2.2.2.2 = false ∧ s.2.2.2.2.2 = false ∧ Ev (fun k => journal_first.j1 k L (c : Int) false (n : Int) (d : Int) v1) r ∧ Ev (fun k => cambistref12_guess.j1 k L [v0, v1, v2] (n : Int) (d : Int) (c : Int) false) s) := by
  have w1 : wrap64 (1 + (c : Int)) = 1 + (c : Int) := wrap_in (by omega) (by omega)
  have hy := y_len L c hcl
  have hys : ∀ p ∈ (L.take (c + 1)).drop 1, p.f1.size ≤ 200 := fun p hp => hs p (List.mem_of_mem_take (List.mem_of_mem_drop hp))
  have stepF : ∀ r : FirstR, Ev (fun k => journal_first.l0 k (c : Int) ((L.take (c + 1)).drop 1) (((L.take (c + 1)).drop 1).length : Int) ((0 : Nat) : Int) (n : Int) (d : Int) v1 []) r → Ev (fun k => journal_first.j1 k L (c : Int) false (n : Int) (d : Int) v1) r := fun r h => by
    refine ev_succ ?_
    simp only [journal_first.j1]
    rw [w1]
    refine ev_neg (by decide) (ev_pos (by omega) (ev_pos (by omega) (ev_opt rfl ?_)))
    rw [show (1 + (c : Int)).toNat = c + 1 by omega]
    exact h
  have stepG : ∀ r : FirstR, Ev (fun k => cambistref12_guess.l0 k L (c : Int) ((1 : Nat) : Int) (n : Int) (d : Int) v1 []) r → Ev (fun k => cambistref12_guess.j1 k L [v0, v1, v2] (n : Int) (d : Int) (c : Int) false) r := fun r h => by
    refine ev_succ ?_
    simp only [cambistref12_guess.j1]
    exact ev_neg (by decide) (ev_pos (by simp) h)
  have hF := first_legs n d v1 c w1 ((L.take (c + 1)).drop 1) (by omega) hys ((L.take (c + 1)).drop 1).length 0 [] (Nat.sub_zero _) (Nat.zero_le _) rfl
  rw [List.drop_zero] at hF
  have hG := guess_legs n d v1 L c hcl hl hs c 1 [] (by omega) (by omega) (Nat.zero_le _)
  rcases hF with ⟨gs, h1, h2⟩ | ⟨h1, r, h2, h3⟩
  · obtain ⟨g1, g2⟩ := legsV_ok hys h1
    rw [hy] at g1
    rw [h1] at hG
    rw [List.nil_append] at h2
    refine .inl ⟨gs, g1, g2, stepF _ (ev_eq ?_ h2), stepG _ (ev_eq ?_ hG)⟩
    · rw [g1]
    · simp only [List.nil_append]
      rw [g1]
  · rw [h1] at hG
    exact .inr ⟨r, _, h2, rfl, stepF _ h3, stepG _ hG⟩
set_option maxHeartbeats 1000000 in
/-- What pairs begin with, by both: an entry of so many pairs, or none. -/
theorem both_first (L : List Pair_) (h0 : 0 < L.length) (hl : L.length ≤ 1000000) (hs : ∀ p ∈ L, p.f0.size ≤ 200 ∧ p.f1.size ≤ 200) :
    (∃ (n d : Nat) (rq : ByteArray) (gs : List Leg_), n < 18446744073709551616 ∧ d < 18446744073709551616 ∧ rq.size ≤ 200 ∧ gs.length + 1 ≤ L.length ∧ (∀ g ∈ gs, g.f0.size ≤ 200 ∧ g.f1.size ≤ 200 ∧ in64 g.f2) ∧
      Ev (fun k => journal_first.f k L) ((n : Int), (d : Int), rq, gs, 1 + (gs.length : Int), true) ∧ Ev (fun k => cambistref12_guess.f k L) ((n : Int), (d : Int), rq, gs, 1 + (gs.length : Int), true)) ∨
    (∃ r s : FirstR, r.2.2.2.2.2 = false ∧ s.2.2.2.2.2 = false ∧ Ev (fun k => journal_first.f k L) r ∧ Ev (fun k => cambistref12_guess.f k L) s) := by
  have hp := hs _ (List.getElem_mem h0)
  have e0 : rd_T26 L 0 = L[0] := rd_pair L 0 h0
  have hzt : ∀ x ∈ splitOn L[0].f0 124, x.size ≤ 200 := fun x hx => Nat.le_trans (split_sizes hx) hp.1
  have hzv : ∀ x ∈ splitOn L[0].f1 124, x.size ≤ 200 := fun x hx => Nat.le_trans (split_sizes hx) hp.2
  have q1 := split_is L[0].f0 (by omega)
  have q2 := split_is L[0].f1 (by omega)
  have q3 := ref_parts L[0].f0 (by omega)
  have q4 := ref_parts L[0].f1 (by omega)
  unfold journal_first.f cambistref12_guess.f
  rw [e0]
  generalize splitOn L[0].f0 124 = t at *
  generalize splitOn L[0].f1 124 = v at *
  have no : ∀ b : Bool, b = true → (∃ r : FirstR, r.2.2.2.2.2 = false ∧ Ev (fun k => journal_first.j0 k L t v b 0 0 ⟨#[]⟩) r) ∧ (∃ s : FirstR, s.2.2.2.2.2 = false ∧ Ev (fun k => cambistref12_guess.j0 k L t v b) s) := fun b hb => by
    subst hb
    refine ⟨⟨(0, 0, ⟨#[]⟩, [], 0, false), rfl, ev_succ ?_⟩, ⟨(0, 0, ⟨#[]⟩, [], 0, false), rfl, ev_succ ?_⟩⟩
    · simp only [journal_first.j0]
      exact ev_pos (by first | rfl | trivial) (ev_some rfl)
    · simp only [cambistref12_guess.j0]
      exact ev_pos (by first | rfl | trivial) (ev_some rfl)
  by_cases ht : t.length = 3
  · by_cases hv : v.length = 3
    · obtain ⟨t0, t1, t2, rfl⟩ := three ht
      obtain ⟨v0, v1, v2, rfl⟩ := three hv
      clear no
      have hv2 := hzv v2 (by simp)
      have r1 : rdOf ByteArray.empty [t0, t1, t2] 1 = t1 := rfl
      have r2 : rdOf ByteArray.empty [v0, v1, v2] 0 = v0 := rfl
      have r3 : rdOf ByteArray.empty [v0, v1, v2] 1 = v1 := rfl
      have r4 : rdOf ByteArray.empty [v0, v1, v2] 2 = v2 := rfl
      obtain ⟨bad, hbad⟩ : ∃ bad, (!(decide ((numR t1).2 = 0)) || !(decide ((numR v0).2 = 0)) || !(decide ((parseOf v2.data.toList).2 = 0)) || decide ((parseOf v2.data.toList).1 < 0) || decide ((parseOf v2.data.toList).1 > wrap64 ((L.length : Int) - 1))) = bad := ⟨_, rfl⟩
      have toF : ∀ r : FirstR, Ev (fun k => journal_first.j1 k L (parseOf v2.data.toList).1 bad (numR t1).1 (numR v0).1 v1) r → Ev (fun k => if 0 < (L.length : Int) then ((strings_Split.f L[0].f0 (⟨#[124]⟩ : ByteArray)).bind fun t129 => ((strings_Split.f L[0].f1 (⟨#[124]⟩ : ByteArray)).bind fun t133 => (if (t129.length : Int) = 3 then (journal_first.j0 k L t129 t133 ((t133.length : Int) != 3) 0 0 (⟨#[]⟩ : ByteArray)) else (journal_first.j0 k L t129 t133 true 0 0 (⟨#[]⟩ : ByteArray))))) else none) r := fun r h => by
        refine ev_pos (by omega) (ev_opt q1 (ev_opt q2 (ev_pos rfl (ev_succ ?_))))
        simp only [journal_first.j0]
        refine ev_neg (by simp) (ev_pos (by simp) (ev_pos (by simp) ?_))
        rw [r1, r2, r3, r4]
        refine ev_opt (num_is t1) (ev_pos (by simp) (ev_opt (num_is v0) (ev_pos (by simp) (ev_opt (parse_some v2 (by omega)) ?_))))
        refine ev_chain (g := fun k f => journal_first.j1 k L (parseOf v2.data.toList).1 f (numR t1).1 (numR v0).1 v1) ?_
        rw [hbad]
        exact h
      have toG : ∀ r : FirstR, Ev (fun k => cambistref12_guess.j1 k L [v0, v1, v2] (numR t1).1 (numR v0).1 (parseOf v2.data.toList).1 bad) r → Ev (fun k => if 0 < (L.length : Int) then ((cambistref12_Parts.f k L[0].f0).bind fun t231 => ((cambistref12_Parts.f k L[0].f1).bind fun t235 => (if (t231.length : Int) = 3 then (cambistref12_guess.j0 k L t231 t235 ((t235.length : Int) != 3)) else (cambistref12_guess.j0 k L t231 t235 true)))) else none) r := fun r h => by
        refine ev_pos (by omega) (ev_call q3 (ev_call q4 (ev_pos rfl (ev_succ ?_))))
        simp only [cambistref12_guess.j0]
        refine ev_neg (by simp) (ev_pos (by simp) ?_)
        rw [r1, r2, r4]
        refine ev_call (num_ref t1) (ev_pos (by simp) (ev_call (num_ref v0) (ev_pos (by simp) (ev_call (ref_parse v2) ?_))))
        refine ev_chain (g := fun k f => cambistref12_guess.j1 k L [v0, v1, v2] (numR t1).1 (numR v0).1 (parseOf v2.data.toList).1 f) ?_
        rw [hbad]
        exact h
      cases bad with
      | true =>
        refine .inr ⟨((numR t1).1, (numR v0).1, v1, [], 0, false), (0, 0, ⟨#[]⟩, [], 0, false), rfl, rfl, toF _ (ev_succ ?_), toG _ (ev_succ ?_)⟩
        · simp only [journal_first.j1]
          exact ev_pos (by first | rfl | trivial) (ev_some rfl)
        · simp only [cambistref12_guess.j1]
          exact ev_pos (by first | rfl | trivial) (ev_some rfl)
      | false =>
        simp only [Bool.or_eq_false_iff, Bool.not_eq_false', decide_eq_true_eq, decide_eq_false_iff_not] at hbad
        obtain ⟨⟨⟨⟨b1, b2⟩, b3⟩, b4⟩, b5⟩ := hbad
        rw [wrap_in (by omega) (by omega)] at b5
        obtain ⟨n, hn, en⟩ := numR_ok b1
        obtain ⟨d, hd, ed⟩ := numR_ok b2
        obtain ⟨c, ec⟩ : ∃ c : Nat, (parseOf v2.data.toList).1 = (c : Int) := ⟨(parseOf v2.data.toList).1.toNat, by omega⟩
        rw [ec] at b4 b5
        have hcl : c + 1 ≤ L.length := by omega
        rw [ec, en, ed] at toF toG
        rcases both_j1 L hl (fun p hp => (hs p hp).2) c n d hcl v0 v1 v2 with ⟨gs, g1, g2, g3, g4⟩ | ⟨r, s, g1, g2, g3, g4⟩
        · exact .inl ⟨n, d, v1, gs, hn, hd, hzv v1 (by simp), by omega, g2, toF _ g3, toG _ g4⟩
        · exact .inr ⟨r, s, g1, g2, toF _ g3, toG _ g4⟩
    · obtain ⟨⟨r, h1, h2⟩, ⟨s, h3, h4⟩⟩ := no ((v.length : Int) != 3) (bne_iff_ne.2 (by omega))
      exact .inr ⟨r, s, h1, h3, ev_pos (by omega) (ev_opt q1 (ev_opt q2 (ev_pos (by omega) h2))), ev_pos (by omega) (ev_call q3 (ev_call q4 (ev_pos (by omega) h4)))⟩
  · obtain ⟨⟨r, h1, h2⟩, ⟨s, h3, h4⟩⟩ := no true rfl
    exact .inr ⟨r, s, h1, h3, ev_pos (by omega) (ev_opt q1 (ev_opt q2 (ev_neg (by omega) h2))), ev_pos (by omega) (ev_call q3 (ev_call q4 (ev_neg (by omega) h4)))⟩
end Go.Proofs.YtjlifcbddednaaaGreatDoor.E
namespace Go.Proofs.YtjlifcbddednaaaGreatDoor.E
open Go.RowKit Go.Proofs.YtjlifcbddednaaaGreatDoor.P Go.Proofs.YtjlifcbddednaaaGreatDoorW.PrintWords Go.Proofs.YtjlifcbddednaaaGreatDoorW.PrintLast
def sameP (a b : Pair_) : Bool := !((!(a.f0.toList == b.f0.toList)) || (!(a.f1.toList == b.f1.toList)))
def sameL : List Pair_ → List Pair_ → Bool
  | [], [] => true
  | x :: a, y :: b => sameP x y && sameL a b
  | _, _ => false
theorem sameL_len : ∀ {a b : List Pair_}, a.length ≠ b.length → sameL a b = false
  | [], [], h => absurd rfl h
  | [], _ :: _, _ => rfl
  | _ :: _, [], _ => rfl
  | x :: a, y :: b, h => by
    have : sameL a b = false := sameL_len (fun e => h (by simp [e]))
    unfold sameL
    rw [this, Bool.and_false]
theorem api_loop (a b : List Pair_) (hl : a.length = b.length) (ha : a.length ≤ 1000000) : ∀ (m i : Nat), a.length - i = m → i ≤ a.length → Ev (fun k => api_Pair.l0 k a b (a.length : Int) (i : Int)) (sameL (a.drop i) (b.drop i)) := by
  intro m
  induction m with
  | zero =>
    intro i hm hi
    obtain rfl : i = a.length := by omega
    refine ev_succ ?_
    simp only [api_Pair.l0]
    refine ev_neg (by omega) (ev_some ?_)
    rw [List.drop_length, hl, List.drop_length]
    rfl
  | succ m ih =>
    intro i hm hi
    have hlt : i < a.length := by omega
    have hlt2 : i < b.length := by omega
    refine ev_succ ?_
    simp only [api_Pair.l0]
    rw [rd_pair a i hlt, rd_pair b i hlt2, wrap_small (by omega : i ≤ a.length) ha, drop_cons hlt, drop_cons hlt2]
    refine ev_pos (by omega) (ev_pos (by omega) (ev_pos (by omega) (ev_pos (by omega) ?_)))
    have ih := ih (i + 1) (by omega) (by omega)
    unfold sameL sameP
    by_cases h : ((!(a[i].f0.toList == b[i].f0.toList)) || (!(a[i].f1.toList == b[i].f1.toList))) = true
    · rw [h]
      exact ev_pos rfl (ev_some rfl)
    · rw [Bool.not_eq_true] at h
      rw [h]
      exact ev_neg (by decide) (ev_eq (by simp) ih)
theorem api_ev (a b : List Pair_) (ha : a.length ≤ 1000000) : Ev (fun k => api_Pair.f k a b) (sameL a b) := by
  unfold api_Pair.f
  by_cases h : a.length = b.length
  · exact ev_pos (by omega) (api_loop a b h ha _ 0 rfl (Nat.zero_le _))
  · rw [sameL_len h]
    exact ev_neg (by omega) (ev_some rfl)
theorem ref_same_loop (a b : List Pair_) (hl : a.length = b.length) (ha : a.length ≤ 1000000) : ∀ (m i : Nat), a.length - i = m → i ≤ a.length → Ev (fun k => cambistref12_same.l0 k a b (i : Int)) (sameL (a.drop i) (b.drop i)) := by
  intro m
  induction m with
  | zero =>
    intro i hm hi
    obtain rfl : i = a.length := by omega
    refine ev_succ ?_
    simp only [cambistref12_same.l0]
    refine ev_neg (by omega) (ev_some ?_)
    rw [List.drop_length, hl, List.drop_length]
    rfl
  | succ m ih =>
    intro i hm hi
    have hlt : i < a.length := by omega
    have hlt2 : i < b.length := by omega
    refine ev_succ ?_
    simp only [cambistref12_same.l0]
    rw [rd_pair a i hlt, rd_pair b i hlt2, wrap_small (by omega : i ≤ a.length) ha, drop_cons hlt, drop_cons hlt2]
    refine ev_pos (by omega) (ev_pos (by omega) (ev_pos (by omega) ?_))
    have ih := ih (i + 1) (by omega) (by omega)
    unfold sameL sameP
    by_cases h : ((!(a[i].f0.toList == b[i].f0.toList)) || (!(a[i].f1.toList == b[i].f1.toList))) = true
    · rw [h]
      exact ev_pos rfl (ev_some rfl)
    · rw [Bool.not_eq_true] at h
      rw [h]
      exact ev_neg (by decide) (ev_eq (by simp) ih)
theorem ref_same_ev (a b : List Pair_) (ha : a.length ≤ 1000000) : Ev (fun k => cambistref12_same.f k a b) (sameL a b) := by
  unfold cambistref12_same.f
  by_cases h : a.length = b.length
  · exact ev_pos (by omega) (ref_same_loop a b h ha _ 0 rfl (Nat.zero_le _))
  · rw [sameL_len h]
    exact ev_neg (by omega) (ev_some rfl)
/-- An entry that was read. -/
structure EntR (x : Ent2_) : Prop where
  few : x.f3.length ≤ 200
  h64 : ints64 x.f3
theorem noE : ∀ x ∈ ([] : List Ent2_), EntR x := fun _ h => nomatch h
theorem both_read : ∀ (m : Nat) (L : List Pr_) (out : List Ent2_), L.length < m → L.length + out.length ≤ 300 → (∀ p ∈ L, p.f0.size ≤ 200 ∧ p.f1.size ≤ 200) → (∀ x ∈ out, EntR x) →
    ∃ (es : List Ent2_) (r : Int), es.length ≤ 300 ∧ (∀ x ∈ es, EntR x) ∧ Ev (fun k => readL k m L out) (es, r) ∧ Ev (fun k => readR k m L out) (es, r)
  | 0, L, out, hm, _, _, _ => absurd hm (Nat.not_lt_zero _)
  | m + 1, L, out, hm, hn, hs, ho => by
    unfold readL readR
    by_cases h0 : L.length = 0
    · exact ⟨out, 0, by omega, ho, ev_pos h0 (ev_some rfl), ev_pos h0 (ev_some rfl)⟩
    · have err : ∀ {P Q : Prop}, P → Q → P ∧ Q := fun p q => ⟨p, q⟩
      suffices H : ∃ (es : List Ent2_) (r : Int), es.length ≤ 300 ∧ (∀ x ∈ es, EntR x) ∧
          Ev (fun k => (journal_first.f k L).bind fun x => if x.2.2.2.2.2 = false ∨ (0 < out.length ∧ x.1 ≤ (out.getD (out.length - 1) eZ).f0) then some ([], 121) else
            (journal_Pairs.f k x.1 x.2.1 x.2.2.1 x.2.2.2.1).bind fun y => if y.2 = 0 then
              (if 1 ≤ x.2.2.2.2.1 ∧ x.2.2.2.2.1 ≤ (L.length : Int) ∧ out.length < 1000000 then (api_Pair.f k y.1 (L.take x.2.2.2.2.1.toNat)).bind fun q =>
                if q = true then readL k m (L.drop x.2.2.2.2.1.toNat) (out ++ [⟨x.1, x.2.1, x.2.2.1, x.2.2.2.1⟩]) else some ([], 121) else none)
              else some ([], 121)) (es, r) ∧
          Ev (fun k => (cambistref12_guess.f k L).bind fun x => if x.2.2.2.2.2 = false then some ([], 121) else
            (cambistref12_Pairs.f k x.1 x.2.1 x.2.2.1 x.2.2.2.1).bind fun y =>
              if 1 ≤ x.2.2.2.2.1 ∧ x.2.2.2.2.1 ≤ (L.length : Int) ∧ out.length < 1000000 then (cambistref12_same.f k y.1 (L.take x.2.2.2.2.1.toNat)).bind fun q =>
                if badR y.2 q out x.1 = true then some ([], 121) else readR k m (L.drop x.2.2.2.2.1.toNat) (out ++ [⟨x.1, x.2.1, x.2.2.1, x.2.2.2.1⟩])
              else none) (es, r) by
        obtain ⟨es, r, a1, a2, a3, a4⟩ := H
        exact ⟨es, r, a1, a2, ev_neg h0 a3, ev_neg h0 a4⟩
      clear err
      rcases both_first L (by omega) (by omega) hs with ⟨n, d, rq, gs, b1, b2, b3, b4, b5, b6, b7⟩ | ⟨r, s, b1, b2, b3, b4⟩
      · have h64 : ints64 gs := fun g hg => (b5 g hg).2.2
        have hsz : ∀ g ∈ gs, g.f0.size ≤ 1000 ∧ g.f1.size ≤ 1000 := fun g hg => by have := b5 g hg; omega
        have p1 := pairs_ev n d b1 b2 rq gs (by omega) (by omega) hsz h64
        have p2 := ref_pairs_ev n d b1 b2 rq gs (by omega) (by omega) hsz h64
        have p3 := pairsTo_length n d rq gs
        generalize hy : pairsTo n d rq gs = y at p1 p2 p3
        have p4 := api_ev y.1 (L.take (gs.length + 1)) (by omega)
        have p5 := ref_same_ev y.1 (L.take (gs.length + 1)) (by omega)
        generalize hq : sameL y.1 (L.take (gs.length + 1)) = q at p4 p5
        have ec : (1 + (gs.length : Int)).toNat = gs.length + 1 := by omega
        have toR : ∀ z, Ev (fun k => if badR y.2 q out (n : Int) = true then some ([], 121) else readR k m (L.drop (gs.length + 1)) (out ++ [⟨(n : Int), (d : Int), rq, gs⟩])) z → Ev (fun k => (cambistref12_guess.f k L).bind fun x => if x.2.2.2.2.2 = false then some ([], 121) else
            (cambistref12_Pairs.f k x.1 x.2.1 x.2.2.1 x.2.2.2.1).bind fun y =>
              if 1 ≤ x.2.2.2.2.1 ∧ x.2.2.2.2.1 ≤ (L.length : Int) ∧ out.length < 1000000 then (cambistref12_same.f k y.1 (L.take x.2.2.2.2.1.toNat)).bind fun q =>
                if badR y.2 q out x.1 = true then some ([], 121) else readR k m (L.drop x.2.2.2.2.1.toNat) (out ++ [⟨x.1, x.2.1, x.2.2.1, x.2.2.2.1⟩])
              else none) z := fun z h => by
          refine ev_call b7 (ev_neg (by simp) (ev_call p2 (ev_pos ⟨by simp only; omega, by simp only; omega, by omega⟩ ?_)))
          simp only
          rw [ec]
          exact ev_call p5 h
        by_cases hlast : 0 < out.length ∧ (n : Int) ≤ (out.getD (out.length - 1) eZ).f0
        · have hb : badR y.2 q out (n : Int) = true := by
            unfold badR
            rw [decide_eq_true hlast.1, decide_eq_true hlast.2]
            simp
          refine ⟨[], 121, Nat.zero_le _, noE, ev_call b6 (ev_pos (.inr hlast) (ev_some rfl)), toR _ ?_⟩
          exact ev_pos hb (ev_some rfl)
        · have hl2 : (decide (0 < out.length) && decide ((n : Int) ≤ (out.getD (out.length - 1) eZ).f0)) = false := by
            rw [← Bool.not_eq_true]
            intro h
            simp only [Bool.and_eq_true, decide_eq_true_eq] at h
            exact hlast h
          have toL : ∀ z, Ev (fun k => if y.2 = 0 then (if q = true then readL k m (L.drop (gs.length + 1)) (out ++ [⟨(n : Int), (d : Int), rq, gs⟩]) else some ([], 121)) else some ([], 121)) z → Ev (fun k => (journal_first.f k L).bind fun x => if x.2.2.2.2.2 = false ∨ (0 < out.length ∧ x.1 ≤ (out.getD (out.length - 1) eZ).f0) then some ([], 121) else
            (journal_Pairs.f k x.1 x.2.1 x.2.2.1 x.2.2.2.1).bind fun y => if y.2 = 0 then
              (if 1 ≤ x.2.2.2.2.1 ∧ x.2.2.2.2.1 ≤ (L.length : Int) ∧ out.length < 1000000 then (api_Pair.f k y.1 (L.take x.2.2.2.2.1.toNat)).bind fun q =>
                if q = true then readL k m (L.drop x.2.2.2.2.1.toNat) (out ++ [⟨x.1, x.2.1, x.2.2.1, x.2.2.2.1⟩]) else some ([], 121) else none)
              else some ([], 121)) z := fun z h => by
            refine ev_call b6 (ev_neg (fun h => h.elim (fun h => by cases h) hlast) (ev_call p1 ?_))
            by_cases hw : y.2 = 0
            · refine ev_pos hw (ev_pos ⟨by simp only; omega, by simp only; omega, by omega⟩ ?_)
              simp only
              rw [ec]
              simp only [if_pos hw] at h
              exact ev_call p4 h
            · refine ev_neg hw ?_
              simp only [if_neg hw] at h
              exact h
          by_cases hw : y.2 = 0
          · cases q with
            | false => exact ⟨[], 121, Nat.zero_le _, noE, toL _ (ev_pos hw (ev_neg (by decide) (ev_some rfl))), toR _ (ev_pos (by unfold badR; simp) (ev_some rfl))⟩
            | true =>
              have hb : badR y.2 true out (n : Int) = false := by
                unfold badR
                rw [decide_eq_true hw, hl2]
                rfl
              have hgs : gs.length ≤ 200 := by
                rw [← hy] at hw
                unfold pairsTo at hw
                split at hw
                · rename_i hc
                  exact (check_get hc).2.2.1
                · cases hw
              obtain ⟨es, r, a1, a2, a3, a4⟩ := both_read m (L.drop (gs.length + 1)) (out ++ [⟨(n : Int), (d : Int), rq, gs⟩]) (by rw [List.length_drop]; omega) (by rw [List.length_drop, List.length_append]; simp only [List.length_cons, List.length_nil]; omega)
                (fun p hp => hs p (List.mem_of_mem_drop hp)) (fun x hx => by
                  rcases List.mem_append.1 hx with hx | hx
                  · exact ho x hx
                  · rw [List.mem_singleton.1 hx]
                    exact ⟨hgs, h64⟩)
              exact ⟨es, r, a1, a2, toL _ (ev_pos hw (ev_pos rfl a3)), toR _ (ev_neg (by rw [hb]; decide) a4)⟩
          · exact ⟨[], 121, Nat.zero_le _, noE, toL _ (ev_neg hw (ev_some rfl)), toR _ (ev_pos (by unfold badR; rw [decide_eq_false hw]; rfl) (ev_some rfl))⟩
      · exact ⟨[], 121, Nat.zero_le _, noE, ev_call b3 (ev_pos (.inl b1) (ev_some rfl)), ev_call b4 (ev_pos b2 (ev_some rfl))⟩
/- What someone got. -/
theorem gotR_mem : ∀ (l : List Ent_) (n asset : ByteArray) (a b : Int) (x : Int), x ∈ gotOf l n asset a b → ∃ e ∈ l, ∃ g ∈ e.f3, g.f2 = x
  | [], _, _, _, _, x, h => by cases h
  | e :: l, n, asset, a, b, x, h => by
    unfold gotOf at h
    rcases List.mem_append.1 h with h | h
    · split at h
      · unfold gotLegs at h
        obtain ⟨g, hg, rfl⟩ := List.mem_map.1 h
        exact ⟨e, List.mem_cons_self .., g, (List.mem_filter.1 hg).1, rfl⟩
      · cases h
    · obtain ⟨e2, h1, h2⟩ := gotR_mem l n asset a b x h
      exact ⟨e2, List.mem_cons_of_mem _ h1, h2⟩
theorem gotLegs_len (l : List Leg_) (n asset : ByteArray) : (gotLegs l n asset).length ≤ l.length := by
  unfold gotLegs
  rw [List.length_map]
  exact List.length_filter_le _ _
theorem gotR_len : ∀ (l : List Ent_) (n asset : ByteArray) (a b : Int), (∀ e ∈ l, e.f3.length ≤ 200) → (gotOf l n asset a b).length ≤ 200 * l.length
  | [], _, _, _, _, _ => Nat.le_refl _
  | e :: l, n, asset, a, b, h => by
    have ih := gotR_len l n asset a b (fun x hx => h x (List.mem_cons_of_mem _ hx))
    have h1 := h e (List.mem_cons_self ..)
    have h2 : (if a ≤ e.f1 ∧ e.f1 < b then gotLegs e.f3 n asset else []).length ≤ e.f3.length := by
      split
      · exact gotLegs_len _ _ _
      · simp
    unfold gotOf
    rw [List.length_append, List.length_cons]
    omega
theorem legs_next (l : List Leg_) (j : Nat) (hj : j < l.length) (n asset : ByteArray) : gotLegs (l.take (j + 1)) n asset = gotLegs (l.take j) n asset ++ (if l[j].f0 = n then (if l[j].f1 = asset then [l[j].f2] else []) else []) := by
  unfold gotLegs
  rw [List.take_succ_eq_append_getElem hj, List.filter_append, List.map_append]
  congr 1
  by_cases h1 : l[j].f0 = n
  · by_cases h2 : l[j].f1 = asset
    · simp [h1, h2]
    · simp [h1, h2]
  · simp [h1]
theorem jsum_is (l : List Ent_) (n asset : ByteArray) (a b : Int) (hl : l.length ≤ 300) (h : ∀ e ∈ l, EntR e) : journal_Sum.f l n asset a b = some (outOf (sumI (gotOf l n asset a b))) := by
  unfold journal_Sum.f
  rw [if_pos ⟨by omega, fun e he => by have := (h e he).few; omega⟩]
  have h1 := gotR_len l n asset a b (fun e he => (h e he).few)
  refine sum_some (by omega) (fun x hx => ?_)
  obtain ⟨e, he, g, hg, rfl⟩ := gotR_mem l n asset a b x hx
  exact (h e he).h64 g hg
theorem rdR_ent (l : List Ent_) (i : Nat) (h : i < l.length) : rd_T39 l (i : Int) = l[i] := by
  unfold rd_T39
  rw [List.getD_eq_getElem?_getD, Int.toNat_natCast, List.getElem?_eq_getElem h]
  rfl
/-- One entry's legs, on a day that counts. -/
theorem rsum_legs (l : List Ent_) (n asset : ByteArray) (a b : Int) (i : Nat) (hi : i < l.length) (hl : l.length ≤ 300) (hf : l[i].f3.length ≤ 200) (hd : a ≤ l[i].f1 ∧ l[i].f1 < b) (R : Int × Int) (acc : List Int) (ha : acc.length ≤ 100000)
    (next : Ev (fun k => cambistref12_Sum.l0 k l n asset a b (acc ++ gotLegs l[i].f3 n asset) ((i + 1 : Nat) : Int)) R) : ∀ (m j : Nat), l[i].f3.length - j = m → j ≤ l[i].f3.length →
    Ev (fun k => cambistref12_Sum.l1 k l n asset a b (acc ++ gotLegs (l[i].f3.take j) n asset) (i : Int) (j : Int)) R := by
  intro m
  induction m with
  | zero =>
    intro j hm hj
    obtain rfl : j = l[i].f3.length := by omega
    refine ev_succ ?_
    simp only [cambistref12_Sum.l1]
    rw [rdR_ent l i hi, List.take_length]
    refine ev_pos (by omega) (ev_pos (by omega) (ev_neg (by omega) (ev_succ ?_)))
    simp only [cambistref12_Sum.j2]
    rw [wrap_small (by omega : i ≤ l.length) (by omega)]
    exact ev_neg (by decide) next
  | succ m ih =>
    intro j hm hj
    have hlt : j < l[i].f3.length := by omega
    have hg := gotLegs_len (l[i].f3.take j) n asset
    have hlt2 : (l[i].f3.take j).length ≤ j := List.length_take_le ..
    have ih := ih (j + 1) (by omega) (by omega)
    rw [legs_next _ j hlt] at ih
    refine ev_succ ?_
    simp only [cambistref12_Sum.l1]
    rw [rdR_ent l i hi, decide_eq_true hd.2]
    refine ev_pos (by omega) (ev_pos (by omega) (ev_pos (by omega) (ev_pos (by omega) (ev_succ ?_))))
    simp only [cambistref12_Sum.j2]
    rw [rdR_ent l i hi, rd_leg l[i].f3 j hlt, wrap_small (by omega : j ≤ l[i].f3.length) (by omega)]
    refine ev_pos (by first | rfl | trivial) (ev_pos (by omega) (ev_pos (by omega) (ev_pos (by omega) (ev_pos (by omega) ?_))))
    by_cases h1 : l[i].f3[j].f0 = n
    · rw [if_pos h1] at ih
      refine ev_pos (same_text.2 h1) ?_
      by_cases h2 : l[i].f3[j].f1 = asset
      · rw [if_pos h2] at ih
        refine ev_pos (same_text.2 h2) (ev_pos (by rw [List.length_append]; omega) ?_)
        rw [List.append_assoc]
        exact ih
      · rw [if_neg h2, List.append_nil] at ih
        exact ev_neg (fun e => h2 (same_text.1 e)) ih
    · rw [if_neg h1, List.append_nil] at ih
      exact ev_neg (fun e => h1 (same_text.1 e)) ih
theorem rsum_loop (l : List Ent_) (n asset : ByteArray) (a b : Int) (hl : l.length ≤ 300) (h : ∀ e ∈ l, EntR e) : ∀ (m i : Nat), l.length - i = m → i ≤ l.length →
    Ev (fun k => cambistref12_Sum.l0 k l n asset a b (gotOf (l.take i) n asset a b) (i : Int)) (outOf (sumI (gotOf l n asset a b))) := by
  intro m
  induction m with
  | zero =>
    intro i hm hi
    obtain rfl : i = l.length := by omega
    have h1 := gotR_len l n asset a b (fun e he => (h e he).few)
    refine ev_succ ?_
    simp only [cambistref12_Sum.l0]
    rw [List.take_length]
    refine ev_neg (by omega) (ev_call (ref_sum _ (fun x hx => ?_) (by omega)) (ev_some rfl))
    obtain ⟨e, he, g, hg, rfl⟩ := gotR_mem l n asset a b x hx
    exact (h e he).h64 g hg
  | succ m ih =>
    intro i hm hi
    have hlt : i < l.length := by omega
    have hx := h _ (List.getElem_mem hlt)
    have ih := ih (i + 1) (by omega) (by omega)
    have e1 : gotOf (l.take (i + 1)) n asset a b = gotOf (l.take i) n asset a b ++ (if a ≤ l[i].f1 ∧ l[i].f1 < b then gotLegs l[i].f3 n asset else []) := by
      rw [List.take_succ_eq_append_getElem hlt, got_app]
      congr 1
      unfold gotOf
      exact List.append_nil _
    rw [e1] at ih
    have h1 := gotR_len (l.take i) n asset a b (fun e he => (h e (List.mem_of_mem_take he)).few)
    rw [List.length_take] at h1
    refine ev_succ ?_
    simp only [cambistref12_Sum.l0]
    refine ev_pos (by omega) ?_
    by_cases hd : a ≤ l[i].f1 ∧ l[i].f1 < b
    · rw [if_pos hd] at ih
      have := rsum_legs l n asset a b i hlt hl hx.few hd _ _ (by omega) ih _ 0 rfl (Nat.zero_le _)
      rw [List.take_zero] at this
      refine ev_eq rfl ?_
      have e2 : gotOf (l.take i) n asset a b ++ gotLegs [] n asset = gotOf (l.take i) n asset a b := List.append_nil _
      rw [e2] at this
      exact this
    · rw [if_neg hd, List.append_nil] at ih
      refine ev_succ ?_
      simp only [cambistref12_Sum.l1]
      rw [rdR_ent l i hlt]
      have fin : Ev (fun k => cambistref12_Sum.j2 k l n asset a b (gotOf (l.take i) n asset a b) (i : Int) 0 false) (outOf (sumI (gotOf l n asset a b))) := by
        refine ev_succ ?_
        simp only [cambistref12_Sum.j2]
        rw [wrap_small (by omega : i ≤ l.length) (by omega)]
        exact ev_neg (by decide) ih
      refine ev_pos (by omega) (ev_pos (by omega) ?_)
      by_cases h0 : (0 : Int) < (l[i].f3.length : Int)
      · refine ev_pos h0 ?_
        by_cases ha : l[i].f1 ≥ a
        · rw [decide_eq_false (by omega : ¬ l[i].f1 < b)]
          exact ev_pos ha fin
        · exact ev_neg ha fin
      · exact ev_neg h0 fin
theorem rsum_is (l : List Ent_) (n asset : ByteArray) (a b : Int) (hl : l.length ≤ 300) (h : ∀ e ∈ l, EntR e) : Ev (fun k => cambistref12_Sum.f k l n asset a b) (outOf (sumI (gotOf l n asset a b))) := rsum_loop l n asset a b hl h _ 0 rfl (Nat.zero_le _)
theorem sameR_ent_loop (n d : Int) (rq : ByteArray) (l : List Leg_) (hl : l.length ≤ 1000000) : ∀ (m i : Nat), l.length - i = m → i ≤ l.length → Ev (fun k => cambistref12_Same.l0 k (i : Int) n d rq l n d rq l) true := by
  intro m
  induction m with
  | zero =>
    intro i hm hi
    obtain rfl : i = l.length := by omega
    refine ev_succ ?_
    simp only [cambistref12_Same.l0]
    exact ev_neg (by omega) (ev_some rfl)
  | succ m ih =>
    intro i hm hi
    have hlt : i < l.length := by omega
    refine ev_succ ?_
    simp only [cambistref12_Same.l0]
    rw [rd_leg l i hlt, wrap_small (by omega : i ≤ l.length) hl]
    exact ev_pos (by omega) (ev_pos (by omega) (ev_pos (by omega) (ev_neg (by simp) (ih (i + 1) (by omega) (by omega)))))
theorem sameR_ent (n d : Int) (rq : ByteArray) (l : List Leg_) (hl : l.length ≤ 1000000) : Ev (fun k => cambistref12_Same.f k n d rq l n d rq l) true := by
  unfold cambistref12_Same.f
  refine ev_pos rfl (ev_pos rfl (ev_pos rfl (ev_succ ?_)))
  simp only [cambistref12_Same.j0]
  exact ev_neg (by simp) (sameR_ent_loop n d rq l hl _ 0 rfl (by omega))
theorem sameR_loop (l : List Ent_) (hl : l.length ≤ 1000000) (hg : ∀ x ∈ l, x.f3.length ≤ 1000000) : ∀ (m i : Nat), l.length - i = m → i ≤ l.length → Ev (fun k => cambistref12_SameAll.l0 k l l (i : Int)) true := by
  intro m
  induction m with
  | zero =>
    intro i hm hi
    obtain rfl : i = l.length := by omega
    refine ev_succ ?_
    simp only [cambistref12_SameAll.l0]
    exact ev_neg (by omega) (ev_some rfl)
  | succ m ih =>
    intro i hm hi
    have hlt : i < l.length := by omega
    refine ev_succ ?_
    simp only [cambistref12_SameAll.l0]
    rw [rdR_ent l i hlt, wrap_small (by omega : i ≤ l.length) hl]
    exact ev_pos (by omega) (ev_pos (by omega) (ev_pos (by omega) (ev_call (sameR_ent _ _ _ _ (hg _ (List.getElem_mem hlt))) (ev_pos rfl (ih (i + 1) (by omega) (by omega))))))
theorem sameR (l : List Ent_) (hl : l.length ≤ 1000000) (hg : ∀ x ∈ l, x.f3.length ≤ 1000000) : Ev (fun k => cambistref12_SameAll.f k l l) true := by
  unfold cambistref12_SameAll.f
  exact ev_pos rfl (sameR_loop l hl hg _ 0 rfl (by omega))
/-- All that the law asks. -/
theorem reads_all (l : List Pr_) (hl : l.length ≤ 300) (hs : ∀ p ∈ l, p.f0.size ≤ 200 ∧ p.f1.size ≤ 200) (who asset : ByteArray) (a b : Int) :
    ∃ (es : List Ent2_) (r n g : Int), (∃ k, journal_Read.f k l = some (es, r)) ∧ (∃ k, cambistref12_Read.f k l = some (es, r)) ∧ (∃ k, cambistref12_SameAll.f k es es = some true) ∧ journal_Sum.f es who asset a b = some (n, g) ∧ (∃ k, cambistref12_Sum.f k es who asset a b = some (n, g)) := by
  obtain ⟨es, r, h1, h2, h3, h4⟩ := both_read (l.length + 1) l [] (Nat.lt_succ_self _) (by simpa using hl) hs (fun x hx => by cases hx)
  exact ⟨es, r, (outOf (sumI (gotOf es who asset a b))).1, (outOf (sumI (gotOf es who asset a b))).2, h3.rounds, h4.rounds, (sameR es (by omega) (fun x hx => by have := (h2 x hx).few; omega)).rounds, jsum_is es who asset a b h1 h2, (rsum_is es who asset a b h1 h2).rounds⟩
end Go.Proofs.YtjlifcbddednaaaGreatDoor.E
namespace Go.Proofs.YtjlifcbddednaaaGreatDoor.E
open Go.RowKit Go.Proofs.YtjlifcbddednaaaGreatDoor.P Go.Proofs.YtjlifcbddednaaaGreatDoorW.PrintWords Go.Proofs.YtjlifcbddednaaaGreatDoorW.PrintLast
def pZ : Pr_ := ⟨⟨#[]⟩, ⟨#[]⟩⟩
theorem pair_get {w : World} {A : Option Addr} {l : List Pr_} (h : Kd.C k26 w A l.length l) (k : Nat) (hk : k < l.length) :
    ∃ ad, A = some ad ∧ w.cell? (ad.add (k * 2)) = some (.string (l.getD k pZ).f0) ∧ w.cell? ⟨(ad.add (k * 2)).block, (ad.add (k * 2)).off + 1, none⟩ = some (.string (l.getD k pZ).f1) := by
  obtain ⟨ad, e, h0, h1⟩ := at_T26 h (k : Int) (by omega) (by omega)
  exact ⟨ad, e, h0, h1⟩
/-- The first k pairs are short. -/
def shortTo (l : List Pr_) (k : Nat) : Prop := ∀ j, j < k → (l.getD j pZ).f0.size ≤ 200 ∧ (l.getD j pZ).f1.size ≤ 200
theorem short_all {l : List Pr_} (h : shortTo l l.length) : ∀ p ∈ l, p.f0.size ≤ 200 ∧ p.f1.size ≤ 200 := fun p hp => by
  obtain ⟨i, hi, rfl⟩ := List.getElem_of_mem hp
  have := h i hi
  rwa [List.getD_eq_getElem?_getD, List.getElem?_eq_getElem hi] at this
set_option maxHeartbeats 4000000 in
set_option maxRecDepth 100000 in
set_option linter.unusedSimpArgs false in
set_option linter.unusedVariables false in
theorem journalReads_true (w : World) (hG : Glob w) (A0 : Option Addr) (c0 : Nat) (l0 : List Pr_) (hg0 : ∀ a ∈ l0, goodPair a) (hl0 : l0.length * Tryz.prog.bytesOf 26 ≤ lim) (hr0 : Kd.C k26 w A0 l0.length l0) (hc0 : l0.length ≤ c0)
    (a1 : ByteArray) (g1 : a1.size ≤ lim) (a2 : ByteArray) (g2 : a2.size ≤ lim) (a3 : Int) (g3 : (Lit.int .u64 a3).wf = true) (a4 : Int) (g4 : (Lit.int .u64 a4).wf = true) :
    Calls Tryz.prog 3 #[.slice A0 l0.length c0, .string a1, .string a2, .int .u64 a3, .int .u64 a4] w fun e w' => e = .returned (.bool true) ∧ Below w.heap.size w w' := by
  have HA : Hid (∀ W, Glob W → Calls Tryz.prog 4 #[] W fun e w' => e = .returned (.bool true) ∧ Below W.heap.size W w') := Lib.hid fun W hW => cambistlaw12_awake.calls true W hW rfl
  have HR := Lib.hid hr0; have HC := Lib.hid hc0
  have HG := Lib.hid hG
  clear hr0 hg0 hl0 hc0 hG g1 g2 g3 g4
  go_enter Tryz.func3, Tryz.ntmps3
  by_cases h3 : 300 < l0.length
  · have n1 : decide ((l0.length : Int) > 300) = true := decide_eq_true (by omega)
    have n2 : decide (300 < (l0.length : Int)) = true := decide_eq_true (by omega)
    have n3 : decide (300 < l0.length) = true := decide_eq_true h3
    clear h3
    go_wp2_with (go_at_call 4; refine (HA.out _ HG.out).mono ?_; rintro e w1 ⟨rfl, hb⟩; have HB1 := Lib.hid hb; clear hb)
    go_ret
    exact ⟨rfl, HB1.out⟩
  · have n1 : decide ((l0.length : Int) > 300) = false := decide_eq_false (by omega)
    have n2 : decide (300 < (l0.length : Int)) = false := decide_eq_false (by omega)
    have n3 : decide (300 < l0.length) = false := decide_eq_false h3
    go_wp2_with (go_at_call 4; refine (HA.out _ HG.out).mono ?_; rintro e w1 ⟨rfl, hb⟩; have HB1 := Lib.hid hb; clear hb)
    go_loopw [12] (fun i wr => ∃ k : Nat, k ≤ l0.length ∧ i = .int .i64 k ∧ Hid (shortTo l0 k) ∧ Hid (Below w.heap.size w wr)) (fun i _ => l0.length - (intOf i).toNat)
    case atStart => exact ⟨0, Nat.zero_le _, rfl, Lib.hid (fun j hj => absurd hj (Nat.not_lt_zero j)), HB1⟩
    case round =>
      clear HB1
      obtain ⟨k, hk, rfl, HS, HB⟩ := hrel
      have h300 : l0.length ≤ 300 := by omega
      by_cases hlt : k < l0.length
      · have hn1 : decide ((k : Int) < (l0.length : Int)) = true := decide_eq_true (by omega)
        have hn2 : decide (k < l0.length) = true := decide_eq_true hlt
        obtain ⟨ad, had, q0, q1⟩ := pair_get HR.out k hlt
        have HSN : Hid ((l0.getD k pZ).f0.size ≤ 200 → (l0.getD k pZ).f1.size ≤ 200 → shortTo l0 (k + 1)) := Lib.hid (fun h1 h2 j hj => by
          by_cases e : j = k
          · subst e; exact ⟨h1, h2⟩
          · exact HS.out j (by omega))
        obtain ⟨x, hx⟩ : ∃ x, l0.getD k pZ = x := ⟨_, rfl⟩
        rw [hx] at q0 q1 HSN
        subst had
        replace q0 := (HB.out.cell (World.block_lt_of_cell? w _ q0)).trans q0
        replace q1 := (HB.out.cell (World.block_lt_of_cell? w _ q1)).trans q1
        clear hx HS
        by_cases hs0 : 200 < x.f0.size
        · have s1 : decide ((x.f0.size : Int) > 200) = true := decide_eq_true (by omega)
          have s2 : decide (200 < (x.f0.size : Int)) = true := decide_eq_true (by omega)
          have s3 : decide (200 < x.f0.size) = true := decide_eq_true hs0
          clear hs0
          go_wp2
          go_ret
          exact ⟨rfl, HB.out⟩
        · have s1 : decide ((x.f0.size : Int) > 200) = false := decide_eq_false (by omega)
          have s2 : decide (200 < (x.f0.size : Int)) = false := decide_eq_false (by omega)
          have s3 : decide (200 < x.f0.size) = false := decide_eq_false hs0
          by_cases hs1 : 200 < x.f1.size
          · have s4 : decide ((x.f1.size : Int) > 200) = true := decide_eq_true (by omega)
            have s5 : decide (200 < (x.f1.size : Int)) = true := decide_eq_true (by omega)
            have s6 : decide (200 < x.f1.size) = true := decide_eq_true hs1
            clear hs0 hs1
            go_wp2
            go_ret
            exact ⟨rfl, HB.out⟩
          · have s4 : decide ((x.f1.size : Int) > 200) = false := decide_eq_false (by omega)
            have s5 : decide (200 < (x.f1.size : Int)) = false := decide_eq_false (by omega)
            have s6 : decide (200 < x.f1.size) = false := decide_eq_false hs1
            have HSX := Lib.hid (HSN.out (by omega) (by omega))
            clear HSN hs0 hs1
            go_wp2
            go_roundw
            case rel => exact ⟨k + 1, by omega, by go_num, HSX, HB⟩
            case measure => simp [intOf]; omega
      · obtain rfl : k = l0.length := by omega
        have hn1 : decide ((l0.length : Int) < (l0.length : Int)) = false := decide_eq_false (by omega)
        have hn2 : decide (l0.length < l0.length) = false := decide_eq_false (by omega)
        obtain ⟨es, r, n, g, ⟨k1, e1⟩, ⟨k2, e2⟩, ⟨k3, e3⟩, e4, ⟨k5, e5⟩⟩ := reads_all l0 h300 (short_all HS.out) a1 a2 a3 a4
        have HRD : Hid (∀ W, Below w.heap.size w W → Calls Tryz.prog 5 #[.slice A0 l0.length c0] W fun e w' => ∃ v0_ : Value, e = .returned (.tuple #[v0_, .int .i64 r]) ∧ Kd.R k39 39 w' W.heap.size (fun _ => True) v0_ es ∧ Below W.heap.size W w') :=
          Lib.hid (fun W hb => journal_Read.calls k1 A0 c0 l0 es r W (HG.out.below hb) (Kd.C_below HR.out hb) HC.out e1)
        have HRR : Hid (∀ W, Below w.heap.size w W → Calls Tryz.prog 6 #[.slice A0 l0.length c0] W fun e w' => ∃ v0_ : Value, e = .returned (.tuple #[v0_, .int .i64 r]) ∧ Kd.R k39 39 w' W.heap.size (fun _ => True) v0_ es ∧ Below W.heap.size W w') :=
          Lib.hid (fun W hb => cambistref12_Read.calls k2 A0 c0 l0 es r W (HG.out.below hb) (Kd.C_below HR.out hb) HC.out e2)
        have HSA : Hid (∀ (W : World) (A1 A2 : Option Addr) (c1 c2 : Nat), Below w.heap.size w W → Kd.C k39 W A1 es.length es → es.length ≤ c1 → Kd.C k39 W A2 es.length es → es.length ≤ c2 → Calls Tryz.prog 7 #[.slice A1 es.length c1, .slice A2 es.length c2] W fun e w' => e = .returned (.bool true) ∧ Below W.heap.size W w') :=
          Lib.hid (fun W A1 A2 c1 c2 hb h1 h2 h3 h4 => (cambistref12_SameAll.calls k3 A1 c1 es A2 c2 es true W (HG.out.below hb) h1 h2 h3 h4 e3).mono (fun e w' h => by first | exact h | exact ⟨h.1, h.2.below⟩ | exact ⟨h.1, h.2 ▸ Below.refl _ _⟩))
        have HSU : Hid (∀ (W : World) (A1 : Option Addr) (c1 : Nat), Below w.heap.size w W → Kd.C k39 W A1 es.length es → es.length ≤ c1 → Calls Tryz.prog 8 #[.slice A1 es.length c1, .string a1, .string a2, .int .u64 a3, .int .u64 a4] W fun e w' => e = .returned (.tuple #[.int .i64 n, .int .i64 g]) ∧ Below W.heap.size W w') :=
          Lib.hid (fun W A1 c1 hb h1 h2 => journal_Sum.calls A1 c1 es a1 a2 a3 a4 n g W (HG.out.below hb) h1 h2 e4)
        have HSR : Hid (∀ (W : World) (A1 : Option Addr) (c1 : Nat), Below w.heap.size w W → Kd.C k39 W A1 es.length es → es.length ≤ c1 → Calls Tryz.prog 9 #[.slice A1 es.length c1, .string a1, .string a2, .int .u64 a3, .int .u64 a4] W fun e w' => e = .returned (.tuple #[.int .i64 n, .int .i64 g]) ∧ Below W.heap.size W w') :=
          Lib.hid (fun W A1 c1 hb h1 h2 => cambistref12_Sum.calls k5 A1 c1 es a1 a2 a3 a4 n g W (HG.out.below hb) h1 h2 e5)
        have b1 : (r == r) = true := beq_self_eq_true _
        have b2 : (n == n) = true := beq_self_eq_true _
        have b3 : (g == g) = true := beq_self_eq_true _
        clear e1 e2 e3 e4 e5 HS h300 h3
        go_wp2_with (first | (go_at_call 5; (with_reducible refine (HRD.out _ HB.out).mono ?_); rintro e w2 ⟨v2, rfl, hR, hb⟩; obtain ⟨A2, c2, hv2⟩ := Kd.R_slice hR; subst hv2; have HR2 := Lib.hid hR; have HB2 := Lib.hid (below_step HB.out hb); clear hR hb HRD) | (go_at_call 6; (with_reducible refine (HRR.out _ HB2.out).mono ?_); rintro e w3 ⟨v3, rfl, hR, hb⟩; obtain ⟨A3, c3, hv3⟩ := Kd.R_slice hR; subst hv3; have HR3 := Lib.hid (Kd.R_reads' hR); have HR2' := Lib.hid (Kd.R_reads' (Kd.R_below HR2.out hb)); have HB3 := Lib.hid (below_step HB2.out hb); clear hR hb HRR HR2) | (go_at_call 7; (with_reducible refine (HSA.out _ _ _ _ _ HB3.out HR2'.out.2.2 HR2'.out.2.1 HR3.out.2.2 HR3.out.2.1).mono ?_); rintro e w4 ⟨rfl, hb⟩; have HC2 := Lib.hid (Kd.C_below HR2'.out.2.2 hb); have HC3 := Lib.hid (Kd.C_below HR3.out.2.2 hb); have HB4 := Lib.hid (below_step HB3.out hb); clear hb HSA) | (go_at_call 8; (with_reducible refine (HSU.out _ _ _ HB4.out HC2.out HR2'.out.2.1).mono ?_); rintro e w5 ⟨rfl, hb⟩; have HD3 := Lib.hid (Kd.C_below HC3.out hb); have HB5 := Lib.hid (below_step HB4.out hb); clear hb HSU) | (go_at_call 9; (with_reducible refine (HSR.out _ _ _ HB5.out HD3.out HR3.out.2.1).mono ?_); rintro e w6 ⟨rfl, hb⟩; have HB6 := Lib.hid (below_step HB5.out hb); clear hb HSR))
        go_ret
        exact ⟨rfl, HB6.out⟩
end Go.Proofs.YtjlifcbddednaaaGreatDoor.E
