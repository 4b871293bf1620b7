/- An entry's pairs: what journal.Pairs and the document answer. -/
import Derived.Test.YtjlifcbddednaaaDoorRef12
import Derived.Test.YtjlifcbddednaaaDoorLib
import Derived.Test.YtjlifcbddednaaaDoorPx11
import Derived.Test.YtjlifcbddednaaaDoorPx10
import Derived.Test.YtjlifcbddednaaaDoorPx10
namespace Go.Proofs.YtjlifcbddednaaaDoor.E
open Go.RowKit Go.Proofs.YtjlifcbddednaaaDoor.P Go.Proofs.YtjlifcbddednaaaDoorW.PrintWords Go.Proofs.YtjlifcbddednaaaDoorW.PrintLast Go.Proofs.YtjlifcbddednaaaDoorW.PrintMore
abbrev Pair_ := S36
def bar : ByteArray := ⟨#[124]⟩
def keyAt (n : Nat) (p : ByteArray) : ByteArray := (keyOf 101 [digitsOf n, p]).1
def placeOf (i : Nat) : ByteArray := (⟨#[49]⟩ : ByteArray) ++ ((digitsOf i).extract 12 (digitsOf i).size)
def amountOf (a : Int) : ByteArray := ⟨(intText a).toArray⟩
def pairLeg (n i : Nat) (g : Leg_) : Pair_ := ⟨keyAt n (placeOf i), g.f0 ++ bar ++ g.f1 ++ bar ++ amountOf g.f2⟩
def legsFrom (n : Nat) : Nat → List Leg_ → List Pair_
  | _, [] => []
  | i, g :: t => pairLeg n i g :: legsFrom n (i + 1) t
def pairHead (n d : Nat) (rq : ByteArray) (l : List Leg_) : Pair_ := ⟨keyAt n ⟨#[48]⟩, digitsOf d ++ bar ++ rq ++ bar ++ amountOf (l.length : Int)⟩
def pairsOf (n d : Nat) (rq : ByteArray) (l : List Leg_) : List Pair_ := pairHead n d rq l :: legsFrom n 0 l
def pairsTo (n d : Nat) (rq : ByteArray) (l : List Leg_) : List Pair_ × Int := if checkB rq l = true then (pairsOf n d rq l, 0) else ([], 120)
theorem size_app (a b : ByteArray) : (a ++ b).size = a.size + b.size := ByteArray.size_append
theorem join3 (a b c : ByteArray) : joinB [a, b, c] bar = a ++ bar ++ b ++ bar ++ c := by
  apply text_ext
  unfold joinB bar
  simp [Lib.join, ByteArray.data_append]
theorem text_size {a : Int} (h : in64 a) : (amountOf a).size ≤ 21 := by
  have h1 := h.1
  have h2 := h.2
  have hs : (amountOf a).size = (intText a).length := by unfold amountOf; exact List.size_toArray
  rw [hs]
  unfold intText
  split
  · have := (decText_facts a.natAbs (by omega)).2.2.2
    simp only [List.length_cons]
    omega
  · have := (decText_facts a.toNat (by omega)).2.2.2
    omega
theorem join_some {a b c : ByteArray} (ha : a.size ≤ 1000) (hb : b.size ≤ 1000) (hc : c.size ≤ 1000) : strings_Join.f [a, b, c] (⟨#[124]⟩ : ByteArray) = some (a ++ bar ++ b ++ bar ++ c) := by
  have e := join3 a b c
  unfold strings_Join.f
  have hl : (Lib.join ([a, b, c].map (·.data.toList)) (⟨#[124]⟩ : ByteArray).data.toList).length = (a ++ bar ++ b ++ bar ++ c).size := by
    rw [← e]
    unfold joinB bar
    exact List.size_toArray.symm
  rw [if_pos ⟨by simp, by rw [hl]; simp only [size_app]; have : bar.size = 1 := rfl; omega⟩]
  exact congrArg some e
theorem place_size (i : Nat) : (placeOf i).size = 5 := by
  unfold placeOf
  rw [size_app, ByteArray.size_extract, digitsOf_size]
  rfl
theorem pair_ev (n : Nat) (hn : n < 18446744073709551616) (p : ByteArray) (hp : p.size ≤ 1000) {l2 : List ByteArray} {r : ByteArray} (h : strings_Join.f l2 (⟨#[124]⟩ : ByteArray) = some r) : Ev (fun k => journal_pair.f k (n : Int) p l2) (keyAt n p, r) := by
  unfold journal_pair.f
  refine ev_opt (digits_some n hn) (ev_call (key_some 101 _ (fun q hq => ?_)) (ev_opt h (ev_some rfl)))
  rcases List.mem_cons.1 hq with rfl | hq
  · rw [digitsOf_size]
    omega
  · rw [List.mem_singleton.1 hq]
    omega
theorem rkey_ev (n : Nat) (p : ByteArray) (hp : p.size ≤ 1000) : Ev (fun k => cambistref02_Key.f k 101 [digitsOf n, p]) (keyOf 101 [digitsOf n, p]) := ref_key 101 _ (fun q hq => by
  rcases List.mem_cons.1 hq with rfl | hq
  · rw [digitsOf_size]
    omega
  · rw [List.mem_singleton.1 hq]
    omega)
theorem wrap_u (i : Nat) (h : i ≤ 1000000) : IntKind.u64.wrap (i : Int) = (i : Int) := by
  rw [IntKind.wrap_u64]
  omega
theorem pairs_loop (n d : Nat) (hn : n < 18446744073709551616) (rq : ByteArray) (l : List Leg_) (hl : l.length ≤ 1000) (hs : ∀ g ∈ l, g.f0.size ≤ 1000 ∧ g.f1.size ≤ 1000) (h64 : ints64 l) : ∀ (m i : Nat) (acc : List Pair_), l.length - i = m → i ≤ l.length → acc.length = i + 1 →
    Ev (fun k => journal_Pairs.l0 k acc l (l.length : Int) (i : Int) (n : Int) (d : Int) rq l) (acc ++ legsFrom n i (l.drop i), 0) := by
  intro m
  induction m with
  | zero =>
    intro i acc hm hi ha
    obtain rfl : i = l.length := by omega
    refine ev_succ ?_
    simp only [journal_Pairs.l0]
    refine ev_neg (by omega) (ev_some ?_)
    rw [List.drop_length]
    simp [legsFrom]
  | succ m ih =>
    intro i acc hm hi ha
    have hlt : i < l.length := by omega
    have hg := hs _ (List.getElem_mem hlt)
    have h6 := h64 _ (List.getElem_mem hlt)
    refine ev_succ ?_
    simp only [journal_Pairs.l0]
    rw [rd_leg l i hlt, wrap_u i (by omega), drop_cons hlt]
    refine ev_pos (by omega) (ev_pos (by omega) (ev_pos (by omega) (ev_opt (digits_some i (by omega)) ?_)))
    have hx : ((digitsOf i).extract 12 (digitsOf i).size).size = 4 := by rw [ByteArray.size_extract, digitsOf_size]; rfl
    refine ev_pos (by rw [digitsOf_size]; decide) (ev_pos (by rw [hx]; decide) (ev_opt (text_some h6) (ev_call (pair_ev n hn (placeOf i) (by rw [place_size]; decide) (join_some hg.1 hg.2 (Nat.le_trans (text_size h6) (by decide)))) (ev_pos (by omega) ?_))))
    rw [wrap_small (by omega : i ≤ l.length) (by omega)]
    refine ev_eq ?_ (ih (i + 1) (acc ++ [pairLeg n i l[i]]) (by omega) (by omega) (by simp; omega))
    simp [legsFrom]
theorem pairs_ev (n d : Nat) (hn : n < 18446744073709551616) (hd : d < 18446744073709551616) (rq : ByteArray) (l : List Leg_) (hl : l.length ≤ 1000) (hr : rq.size ≤ 1000) (hs : ∀ g ∈ l, g.f0.size ≤ 1000 ∧ g.f1.size ≤ 1000) (h64 : ints64 l) :
    Ev (fun k => journal_Pairs.f k (n : Int) (d : Int) rq l) (pairsTo n d rq l) := by
  unfold journal_Pairs.f
  refine ev_opt (check_some (by omega) (fun g hg => ⟨Nat.le_trans (hs g hg).1 (by decide), Nat.le_trans (hs g hg).2 (by decide)⟩) h64) ?_
  unfold pairsTo
  cases hc : checkB rq l with
  | false =>
    refine ev_neg (by decide) (ev_some ?_)
    rfl
  | true =>
    have h6 : in64 (l.length : Int) := by unfold in64; omega
    refine ev_pos (by decide) (ev_opt (digits_some d hd) (ev_opt (text_some h6) (ev_call (pair_ev n hn ⟨#[48]⟩ (by decide) (join_some (by rw [digitsOf_size]; decide) hr (Nat.le_trans (text_size h6) (by decide)))) ?_)))
    exact pairs_loop n d hn rq l hl hs h64 _ 0 [pairHead n d rq l] rfl (by omega) rfl
theorem ref_pairs_loop (n d : Nat) (rq : ByteArray) (l : List Leg_) (hl : l.length ≤ 1000) (hs : ∀ g ∈ l, g.f0.size ≤ 1000 ∧ g.f1.size ≤ 1000) (h64 : ints64 l) : ∀ (m i : Nat) (acc : List Pair_), l.length - i = m → i ≤ l.length → acc.length = i + 1 →
    Ev (fun k => cambistref12_Pairs.l0 k (digitsOf n) acc (i : Int) (n : Int) (d : Int) rq l) (acc ++ legsFrom n i (l.drop i), 0) := by
  intro m
  induction m with
  | zero =>
    intro i acc hm hi ha
    obtain rfl : i = l.length := by omega
    refine ev_succ ?_
    simp only [cambistref12_Pairs.l0]
    refine ev_neg (by omega) (ev_some ?_)
    rw [List.drop_length]
    simp [legsFrom]
  | succ m ih =>
    intro i acc hm hi ha
    have hlt : i < l.length := by omega
    have hg := hs _ (List.getElem_mem hlt)
    have h6 := h64 _ (List.getElem_mem hlt)
    have ht := text_size h6
    have hx : ((digitsOf i).extract 12 (digitsOf i).size).size = 4 := by rw [ByteArray.size_extract, digitsOf_size]; rfl
    have hb : (⟨#[124]⟩ : ByteArray).size = 1 := rfl
    refine ev_succ ?_
    simp only [cambistref12_Pairs.l0]
    rw [rd_leg l i hlt, wrap_u i (by omega), drop_cons hlt]
    refine ev_pos (by omega) (ev_pos (by omega) (ev_call (ref_digits i (by omega)) (ev_pos (by rw [digitsOf_size]; decide) (ev_pos (by rw [hx]; decide) (ev_call (rkey_ev n (placeOf i) (by rw [place_size]; decide)) ?_)))))
    refine ev_pos (by omega) (ev_pos (by simp only [size_app]; omega) (ev_pos (by simp only [size_app]; omega) (ev_call (ref_text h6) (ev_pos (by simp only [size_app]; have : (⟨(intText l[i].f2).toArray⟩ : ByteArray).size ≤ 21 := ht; omega) (ev_pos (by omega) ?_)))))
    rw [wrap_small (by omega : i ≤ l.length) (by omega)]
    refine ev_eq ?_ (ih (i + 1) (acc ++ [pairLeg n i l[i]]) (by omega) (by omega) (by simp; omega))
    simp [legsFrom]
theorem ref_pairs_ev (n d : Nat) (hn : n < 18446744073709551616) (hd : d < 18446744073709551616) (rq : ByteArray) (l : List Leg_) (hl : l.length ≤ 1000) (hr : rq.size ≤ 1000) (hs : ∀ g ∈ l, g.f0.size ≤ 1000 ∧ g.f1.size ≤ 1000) (h64 : ints64 l) :
    Ev (fun k => cambistref12_Pairs.f k (n : Int) (d : Int) rq l) (pairsTo n d rq l) := by
  unfold cambistref12_Pairs.f
  refine ev_call (rcheck_ev n d rq l (by omega) h64 (by omega) (fun g hg => ⟨Nat.le_trans (hs g hg).1 (by decide), Nat.le_trans (hs g hg).2 (by decide)⟩)) ?_
  unfold pairsTo
  cases hc : checkB rq l with
  | false =>
    refine ev_neg (by decide) (ev_some ?_)
    rfl
  | true =>
    have h6 : in64 (l.length : Int) := by unfold in64; omega
    have ht := text_size h6
    have hb : (⟨#[124]⟩ : ByteArray).size = 1 := rfl
    have hds := digitsOf_size d
    refine ev_pos (by decide) (ev_call (ref_digits n hn) (ev_call (rkey_ev n ⟨#[48]⟩ (by decide)) (ev_call (ref_digits d hd) ?_)))
    refine ev_pos (by omega) (ev_pos (by simp only [size_app]; omega) (ev_pos (by simp only [size_app]; omega) (ev_call (ref_text h6) (ev_pos (by simp only [size_app]; have : (⟨(intText (l.length : Int)).toArray⟩ : ByteArray).size ≤ 21 := ht; omega) ?_))))
    exact ref_pairs_loop n d rq l hl hs h64 _ 0 [pairHead n d rq l] rfl (by omega) rfl
theorem rd_pair (l : List Pair_) (i : Nat) (h : i < l.length) : rd_T36 l (i : Int) = l[i] := by
  unfold rd_T36
  rw [List.getD_eq_getElem?_getD, Int.toNat_natCast, List.getElem?_eq_getElem h]
  rfl
theorem same_pairs_loop (l : List Pair_) (hl : l.length ≤ 1000000) : ∀ (m i : Nat), l.length - i = m → i ≤ l.length → Ev (fun k => cambistref05_Pairs.l0 k l l (i : Int)) true := by
  intro m
  induction m with
  | zero =>
    intro i hm hi
    obtain rfl : i = l.length := by omega
    refine ev_succ ?_
    simp only [cambistref05_Pairs.l0]
    exact ev_neg (by omega) (ev_some rfl)
  | succ m ih =>
    intro i hm hi
    have hlt : i < l.length := by omega
    refine ev_succ ?_
    simp only [cambistref05_Pairs.l0]
    rw [rd_pair l i hlt, wrap_small (by omega : i ≤ l.length) hl]
    exact ev_pos (by omega) (ev_pos (by omega) (ev_pos (by omega) (ev_neg (by simp) (ih (i + 1) (by omega) (by omega)))))
theorem same_pairs (l : List Pair_) (hl : l.length ≤ 1000000) : Ev (fun k => cambistref05_Pairs.f k l l) true := by
  unfold cambistref05_Pairs.f
  exact ev_pos rfl (same_pairs_loop l hl _ 0 rfl (by omega))
theorem legsFrom_length (n : Nat) : ∀ (l : List Leg_) (i : Nat), (legsFrom n i l).length = l.length
  | [], _ => rfl
  | _ :: t, i => by simp [legsFrom, legsFrom_length n t (i + 1)]
theorem pairsTo_length (n d : Nat) (rq : ByteArray) (l : List Leg_) : (pairsTo n d rq l).1.length ≤ l.length + 1 := by
  unfold pairsTo
  split
  · simp [pairsOf, legsFrom_length]
  · simp
end Go.Proofs.YtjlifcbddednaaaDoor.E
