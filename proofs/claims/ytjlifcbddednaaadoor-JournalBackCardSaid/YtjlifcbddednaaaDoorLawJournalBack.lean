/- An entry's pairs: what journal.Pairs and the document answer. An entry's pairs are that entry: they are parted again. Entries' pairs: read again, they are the entries; their keys rise; they are short. The keys of entries' pairs rise; keys and values are short. The law JournalBack of the given program: entries' pairs are those entries again; their keys rise; keys and values are short. -/
import Derived.Test.YtjlifcbddednaaaDoorRef12
import Derived.Test.YtjlifcbddednaaaDoorLib
import Derived.Test.YtjlifcbddednaaaDoorPx11
import Derived.Test.YtjlifcbddednaaaDoorPx10
import Derived.Test.YtjlifcbddednaaaDoorPx10
import Derived.Test.YtjlifcbddednaaaDoorFewJ
import Derived.Test.YtjlifcbddednaaaDoorPx4
import Derived.Test.YtjlifcbddednaaaDoorPx5
import Derived.Test.YtjlifcbddednaaaDoorJRead
import Derived.Test.YtjlifcbddednaaaDoorPx6
import Derived.Test.YtjlifcbddednaaaDoorAwake12
import Derived.Test.YtjlifcbddednaaaDoorOpenJ
import Derived.Test.YtjlifcbddednaaaDoorGlobAt
import Derived.Test.YtjlifcbddednaaaDoorPx3
import Derived.Laws.Cover1
import Derived.WalkKit
import Derived.BigQuiet
import Derived.Deep.QuietTactic
import Derived.Deep.RegionHeld2
import Derived.Test.YtjlifcbddednaaaDoorShort
import Derived.Lib.Hide
namespace Go.Proofs.YtjlifcbddednaaaDoor.E
open Go.RowKit Go.Proofs.YtjlifcbddednaaaDoor.P Go.Proofs.YtjlifcbddednaaaDoorW.PrintWords Go.Proofs.YtjlifcbddednaaaDoorW.PrintLast Go.Proofs.YtjlifcbddednaaaDoorW.PrintMore
abbrev Pair_ := S36
def bar : ByteArray := ⟨#[124]⟩
def keyAt (n : Nat) (p : ByteArray) : ByteArray := (keyOf 101 [digitsOf n, p]).1
def placeOf (i : Nat) : ByteArray := (⟨#[49]⟩ : ByteArray) ++ ((digitsOf i).extract 12 (digitsOf i).size)
def amountOf (a : Int) : ByteArray := ⟨(intText a).toArray⟩
def pairLeg (n i : Nat) (g : Leg_) : Pair_ := ⟨keyAt n (placeOf i), g.f0 ++ bar ++ g.f1 ++ bar ++ amountOf g.f2⟩
def legsFrom (n : Nat) : Nat → List Leg_ → List Pair_
  | _, [] => []
  | i, g :: t => pairLeg n i g :: legsFrom n (i + 1) t
def pairHead (n d : Nat) (rq : ByteArray) (l : List Leg_) : Pair_ := ⟨keyAt n ⟨#[48]⟩, digitsOf d ++ bar ++ rq ++ bar ++ amountOf (l.length : Int)⟩
def pairsOf (n d : Nat) (rq : ByteArray) (l : List Leg_) : List Pair_ := pairHead n d rq l :: legsFrom n 0 l
def pairsTo (n d : Nat) (rq : ByteArray) (l : List Leg_) : List Pair_ × Int := if checkB rq l = true then (pairsOf n d rq l, 0) else ([], 120)
theorem size_app (a b : ByteArray) : (a ++ b).size = a.size + b.size := ByteArray.size_append
theorem join3 (a b c : ByteArray) : joinB [a, b, c] bar = a ++ bar ++ b ++ bar ++ c := by
  apply text_ext
  unfold joinB bar
  simp [Lib.join, ByteArray.data_append]
theorem text_size {a : Int} (h : in64 a) : (amountOf a).size ≤ 21 := by
  have h1 := h.1
  have h2 := h.2
  have hs : (amountOf a).size = (intText a).length := by unfold amountOf; exact List.size_toArray
  rw [hs]
  unfold intText
  split
  · have := (decText_facts a.natAbs (by omega)).2.2.2
    simp only [List.length_cons]
    omega
  · have := (decText_facts a.toNat (by omega)).2.2.2
    omega
theorem join_some {a b c : ByteArray} (ha : a.size ≤ 1000) (hb : b.size ≤ 1000) (hc : c.size ≤ 1000) : strings_Join.f [a, b, c] (⟨#[124]⟩ : ByteArray) = some (a ++ bar ++ b ++ bar ++ c) := by
  have e := join3 a b c
  unfold strings_Join.f
  have hl : (Lib.join ([a, b, c].map (·.data.toList)) (⟨#[124]⟩ : ByteArray).data.toList).length = (a ++ bar ++ b ++ bar ++ c).size := by
    rw [← e]
    unfold joinB bar
    exact List.size_toArray.symm
  rw [if_pos ⟨by simp, by rw [hl]; simp only [size_app]; have : bar.size = 1 := rfl; omega⟩]
  exact congrArg some e
theorem place_size (i : Nat) : (placeOf i).size = 5 := by
  unfold placeOf
  rw [size_app, ByteArray.size_extract, digitsOf_size]
  rfl
theorem pair_ev (n : Nat) (hn : n < 18446744073709551616) (p : ByteArray) (hp : p.size ≤ 1000) {l2 : List ByteArray} {r : ByteArray} (h : strings_Join.f l2 (⟨#[124]⟩ : ByteArray) = some r) : Ev (fun k => journal_pair.f k (n : Int) p l2) (keyAt n p, r) := by
  unfold journal_pair.f
  refine ev_opt (digits_some n hn) (ev_call (key_some 101 _ (fun q hq => ?_)) (ev_opt h (ev_some rfl)))
  rcases List.mem_cons.1 hq with rfl | hq
  · rw [digitsOf_size]
    omega
  · rw [List.mem_singleton.1 hq]
    omega
theorem rkey_ev (n : Nat) (p : ByteArray) (hp : p.size ≤ 1000) : Ev (fun k => cambistref02_Key.f k 101 [digitsOf n, p]) (keyOf 101 [digitsOf n, p]) := ref_key 101 _ (fun q hq => by
  rcases List.mem_cons.1 hq with rfl | hq
  · rw [digitsOf_size]
    omega
  · rw [List.mem_singleton.1 hq]
    omega)
theorem wrap_u (i : Nat) (h : i ≤ 1000000) : IntKind.u64.wrap (i : Int) = (i : Int) := by
  rw [IntKind.wrap_u64]
  omega
theorem pairs_loop (n d : Nat) (hn : n < 18446744073709551616) (rq : ByteArray) (l : List Leg_) (hl : l.length ≤ 1000) (hs : ∀ g ∈ l, g.f0.size ≤ 1000 ∧ g.f1.size ≤ 1000) (h64 : ints64 l) : ∀ (m i : Nat) (acc : List Pair_), l.length - i = m → i ≤ l.length → acc.length = i + 1 →
    Ev (fun k => journal_Pairs.l0 k acc l (l.length : Int) (i : Int) (n : Int) (d : Int) rq l) (acc ++ legsFrom n i (l.drop i), 0) := by
  intro m
  induction m with
  | zero =>
    intro i acc hm hi ha
    obtain rfl : i = l.length := by omega
    refine ev_succ ?_
    simp only [journal_Pairs.l0]
    refine ev_neg (by omega) (ev_some ?_)
    rw [List.drop_length]
    simp [legsFrom]
  | succ m ih =>
    intro i acc hm hi ha
    have hlt : i < l.length := by omega
    have hg := hs _ (List.getElem_mem hlt)
    have h6 := h64 _ (List.getElem_mem hlt)
    refine ev_succ ?_
    simp only [journal_Pairs.l0]
    rw [rd_leg l i hlt, wrap_u i (by omega), drop_cons hlt]
    refine ev_pos (by omega) (ev_pos (by omega) (ev_pos (by omega) (ev_opt (digits_some i (by omega)) ?_)))
    have hx : ((digitsOf i).extract 12 (digitsOf i).size).size = 4 := by rw [ByteArray.size_extract, digitsOf_size]; rfl
    refine ev_pos (by rw [digitsOf_size]; decide) (ev_pos (by rw [hx]; decide) (ev_opt (text_some h6) (ev_call (pair_ev n hn (placeOf i) (by rw [place_size]; decide) (join_some hg.1 hg.2 (Nat.le_trans (text_size h6) (by decide)))) (ev_pos (by omega) ?_))))
    rw [wrap_small (by omega : i ≤ l.length) (by omega)]
    refine ev_eq ?_ (ih (i + 1) (acc ++ [pairLeg n i l[i]]) (by omega) (by omega) (by simp; omega))
    simp [legsFrom]
theorem pairs_ev (n d : Nat) (hn : n < 18446744073709551616) (hd : d < 18446744073709551616) (rq : ByteArray) (l : List Leg_) (hl : l.length ≤ 1000) (hr : rq.size ≤ 1000) (hs : ∀ g ∈ l, g.f0.size ≤ 1000 ∧ g.f1.size ≤ 1000) (h64 : ints64 l) :
    Ev (fun k => journal_Pairs.f k (n : Int) (d : Int) rq l) (pairsTo n d rq l) := by
  unfold journal_Pairs.f
  refine ev_opt (check_some (by omega) (fun g hg => ⟨Nat.le_trans (hs g hg).1 (by decide), Nat.le_trans (hs g hg).2 (by decide)⟩) h64) ?_
  unfold pairsTo
  cases hc : checkB rq l with
  | false =>
    refine ev_neg (by decide) (ev_some ?_)
    rfl
  | true =>
    have h6 : in64 (l.length : Int) := by unfold in64; omega
    refine ev_pos (by decide) (ev_opt (digits_some d hd) (ev_opt (text_some h6) (ev_call (pair_ev n hn ⟨#[48]⟩ (by decide) (join_some (by rw [digitsOf_size]; decide) hr (Nat.le_trans (text_size h6) (by decide)))) ?_)))
    exact pairs_loop n d hn rq l hl hs h64 _ 0 [pairHead n d rq l] rfl (by omega) rfl
theorem ref_pairs_loop (n d : Nat) (rq : ByteArray) (l : List Leg_) (hl : l.length ≤ 1000) (hs : ∀ g ∈ l, g.f0.size ≤ 1000 ∧ g.f1.size ≤ 1000) (h64 : ints64 l) : ∀ (m i : Nat) (acc : List Pair_), l.length - i = m → i ≤ l.length → acc.length = i + 1 →
    Ev (fun k => cambistref12_Pairs.l0 k (digitsOf n) acc (i : Int) (n : Int) (d : Int) rq l) (acc ++ legsFrom n i (l.drop i), 0) := by
  intro m
  induction m with
  | zero =>
    intro i acc hm hi ha
    obtain rfl : i = l.length := by omega
    refine ev_succ ?_
    simp only [cambistref12_Pairs.l0]
    refine ev_neg (by omega) (ev_some ?_)
    rw [List.drop_length]
    simp [legsFrom]
  | succ m ih =>
    intro i acc hm hi ha
    have hlt : i < l.length := by omega
    have hg := hs _ (List.getElem_mem hlt)
    have h6 := h64 _ (List.getElem_mem hlt)
    have ht := text_size h6
    have hx : ((digitsOf i).extract 12 (digitsOf i).size).size = 4 := by rw [ByteArray.size_extract, digitsOf_size]; rfl
    have hb : (⟨#[124]⟩ : ByteArray).size = 1 := rfl
    refine ev_succ ?_
    simp only [cambistref12_Pairs.l0]
    rw [rd_leg l i hlt, wrap_u i (by omega), drop_cons hlt]
    refine ev_pos (by omega) (ev_pos (by omega) (ev_call (ref_digits i (by omega)) (ev_pos (by rw [digitsOf_size]; decide) (ev_pos (by rw [hx]; decide) (ev_call (rkey_ev n (placeOf i) (by rw [place_size]; decide)) ?_)))))
    refine ev_pos (by omega) (ev_pos (by simp only [size_app]; omega) (ev_pos (by simp only [size_app]; omega) (ev_call (ref_text h6) (ev_pos (by simp only [size_app]; have : (⟨(intText l[i].f2).toArray⟩ : ByteArray).size ≤ 21 := ht; omega) (ev_pos (by omega) ?_)))))
    rw [wrap_small (by omega : i ≤ l.length) (by omega)]
    refine ev_eq ?_ (ih (i + 1) (acc ++ [pairLeg n i l[i]]) (by omega) (by omega) (by simp; omega))
    simp [legsFrom]
theorem ref_pairs_ev (n d : Nat) (hn : n < 18446744073709551616) (hd : d < 18446744073709551616) (rq : ByteArray) (l : List Leg_) (hl : l.length ≤ 1000) (hr : rq.size ≤ 1000) (hs : ∀ g ∈ l, g.f0.size ≤ 1000 ∧ g.f1.size ≤ 1000) (h64 : ints64 l) :
    Ev (fun k => cambistref12_Pairs.f k (n : Int) (d : Int) rq l) (pairsTo n d rq l) := by
  unfold cambistref12_Pairs.f
  refine ev_call (rcheck_ev n d rq l (by omega) h64 (by omega) (fun g hg => ⟨Nat.le_trans (hs g hg).1 (by decide), Nat.le_trans (hs g hg).2 (by decide)⟩)) ?_
  unfold pairsTo
  cases hc : checkB rq l with
  | false =>
    refine ev_neg (by decide) (ev_some ?_)
    rfl
  | true =>
    have h6 : in64 (l.length : Int) := by unfold in64; omega
    have ht := text_size h6
    have hb : (⟨#[124]⟩ : ByteArray).size = 1 := rfl
    have hds := digitsOf_size d
    refine ev_pos (by decide) (ev_call (ref_digits n hn) (ev_call (rkey_ev n ⟨#[48]⟩ (by decide)) (ev_call (ref_digits d hd) ?_)))
    refine ev_pos (by omega) (ev_pos (by simp only [size_app]; omega) (ev_pos (by simp only [size_app]; omega) (ev_call (ref_text h6) (ev_pos (by simp only [size_app]; have : (⟨(intText (l.length : Int)).toArray⟩ : ByteArray).size ≤ 21 := ht; omega) ?_))))
    exact ref_pairs_loop n d rq l hl hs h64 _ 0 [pairHead n d rq l] rfl (by omega) rfl
theorem rd_pair (l : List Pair_) (i : Nat) (h : i < l.length) : rd_T36 l (i : Int) = l[i] := by
  unfold rd_T36
  rw [List.getD_eq_getElem?_getD, Int.toNat_natCast, List.getElem?_eq_getElem h]
  rfl
theorem same_pairs_loop (l : List Pair_) (hl : l.length ≤ 1000000) : ∀ (m i : Nat), l.length - i = m → i ≤ l.length → Ev (fun k => cambistref05_Pairs.l0 k l l (i : Int)) true := by
  intro m
  induction m with
  | zero =>
    intro i hm hi
    obtain rfl : i = l.length := by omega
    refine ev_succ ?_
    simp only [cambistref05_Pairs.l0]
    exact ev_neg (by omega) (ev_some rfl)
  | succ m ih =>
    intro i hm hi
    have hlt : i < l.length := by omega
    refine ev_succ ?_
    simp only [cambistref05_Pairs.l0]
    rw [rd_pair l i hlt, wrap_small (by omega : i ≤ l.length) hl]
    exact ev_pos (by omega) (ev_pos (by omega) (ev_pos (by omega) (ev_neg (by simp) (ih (i + 1) (by omega) (by omega)))))
theorem same_pairs (l : List Pair_) (hl : l.length ≤ 1000000) : Ev (fun k => cambistref05_Pairs.f k l l) true := by
  unfold cambistref05_Pairs.f
  exact ev_pos rfl (same_pairs_loop l hl _ 0 rfl (by omega))
theorem legsFrom_length (n : Nat) : ∀ (l : List Leg_) (i : Nat), (legsFrom n i l).length = l.length
  | [], _ => rfl
  | _ :: t, i => by simp [legsFrom, legsFrom_length n t (i + 1)]
theorem pairsTo_length (n d : Nat) (rq : ByteArray) (l : List Leg_) : (pairsTo n d rq l).1.length ≤ l.length + 1 := by
  unfold pairsTo
  split
  · simp [pairsOf, legsFrom_length]
  · simp
end Go.Proofs.YtjlifcbddednaaaDoor.E
namespace Go.Proofs.YtjlifcbddednaaaDoor.E
open Go.RowKit Go.Proofs.YtjlifcbddednaaaDoor.P Go.Proofs.YtjlifcbddednaaaDoorW.PrintWords Go.Proofs.YtjlifcbddednaaaDoorW.PrintLast
theorem cutAt_append (x y : List UInt8) : cutAt 124 (x ++ 124 :: y) = cutAt 124 x ++ cutAt 124 y := by
  induction x with
  | nil => rw [List.nil_append, cutAt_cons_eq]; rfl
  | cons b x ih =>
    by_cases h : b = 124
    · subst h
      rw [List.cons_append, cutAt_cons_eq, cutAt_cons_eq, ih]
      rfl
    · obtain ⟨u, t, e1, e2⟩ := cutAt_cons_ne h x
      obtain ⟨u', t', e1', e2'⟩ := cutAt_cons_ne h (x ++ 124 :: y)
      rw [List.cons_append, e2', e2]
      rw [ih, e1] at e1'
      simp only [List.cons_append, List.cons.injEq] at e1'
      rw [← e1'.1, ← e1'.2]
      rfl
theorem cutAt_none (x : List UInt8) (h : ∀ b ∈ x, b ≠ 124) : cutAt 124 x = [x] := by
  induction x with
  | nil => rfl
  | cons b x ih =>
    obtain ⟨u, t, e1, e2⟩ := cutAt_cons_ne (h b (List.mem_cons_self ..)) x
    rw [ih (fun c hc => h c (List.mem_cons_of_mem _ hc))] at e1
    simp only [List.cons.injEq] at e1
    rw [e2, ← e1.1, ← e1.2]
/-- A text without a bar. -/
def noBar (s : ByteArray) : Prop := ∀ b ∈ s.data.toList, b ≠ 124
theorem split3 {a b c : ByteArray} (ha : noBar a) (hb : noBar b) (hc : noBar c) : splitOn (a ++ bar ++ b ++ bar ++ c) 124 = [a, b, c] := by
  unfold splitOn
  have e : (a ++ bar ++ b ++ bar ++ c).data.toList = a.data.toList ++ 124 :: (b.data.toList ++ 124 :: c.data.toList) := by
    unfold bar
    simp [ByteArray.data_append]
  rw [e, cutAt_append, cutAt_none _ ha, cutAt_append, cutAt_none _ hb, cutAt_none _ hc]
  simp
theorem noBar_part {m : Int} {s : ByteArray} (h : isPart isSign m s = true) : noBar s := fun b hb e => by
  have := List.all_eq_true.1 (isPart_all h) b hb
  rw [e] at this
  revert this
  decide
theorem noBar_up {m : Int} {s : ByteArray} (h : isPart isUp m s = true) : noBar s := fun b hb e => by
  have := List.all_eq_true.1 (isPart_all h) b hb
  rw [e] at this
  revert this
  decide
theorem noBar_who {s : ByteArray} (h : isWho s = true) : noBar s := fun b hb e => by
  unfold isWho at h
  cases hs : s.data.toList with
  | nil => rw [hs] at h; cases h
  | cons c t =>
    rw [hs] at h hb
    simp only [Bool.and_eq_true] at h
    rcases List.mem_cons.1 hb with hb | hb
    · have := h.1.1
      rw [← hb, e] at this
      revert this
      decide
    · have := List.all_eq_true.1 h.1.2 b hb
      rw [e] at this
      revert this
      decide
theorem hex_ne (d : Nat) (h : d < 16) : (hexSign d).toUInt8 ≠ 124 := by
  revert d
  decide
theorem noBar_digits (n : Nat) : noBar (digitsOf n) := fun b hb => by
  unfold digitsOf at hb
  obtain ⟨j, _, rfl⟩ := List.mem_map.1 hb
  exact hex_ne _ (digitAt_lt _ _)
theorem ten_ne {c : UInt8} (h : isTen c) : c ≠ 124 := fun e => by
  subst e
  have := h.2
  revert this
  decide
theorem noBar_amount {a : Int} (h : in64 a) : noBar (amountOf a) := fun b hb => by
  have h1 := h.1
  have h2 := h.2
  unfold amountOf intText at hb
  split at hb
  · rcases List.mem_cons.1 hb with rfl | hb
    · decide
    · exact ten_ne ((decText_facts a.natAbs (by omega)).1 b hb)
  · exact ten_ne ((decText_facts a.toNat (by omega)).1 b hb)
theorem split_some {a b c : ByteArray} (ha : noBar a) (hb : noBar b) (hc : noBar c) (h1 : a.size ≤ 1000) (h2 : b.size ≤ 1000) (h3 : c.size ≤ 1000) : strings_Split.f (a ++ bar ++ b ++ bar ++ c) (⟨#[124]⟩ : ByteArray) = some [a, b, c] := by
  unfold strings_Split.f
  rw [if_pos (by simp only [size_app]; have : bar.size = 1 := rfl; omega)]
  exact congrArg some (split3 ha hb hc)
theorem amount_parse {a : Int} (h : in64 a) : coin_Parse.f (amountOf a) = some (a, 0) := by
  unfold coin_Parse.f
  rw [if_pos (Nat.le_trans (text_size h) (by decide))]
  exact congrArg some (parseOf_text h)
theorem keyAt_is (n : Nat) (p : ByteArray) (hp : isPart isSign 16 p = true) : keyAt n p = (⟨#[101]⟩ : ByteArray) ++ bar ++ digitsOf n ++ bar ++ p := by
  unfold keyAt
  have hd : isPart isSign 16 (digitsOf n) = true := by
    unfold isPart
    rw [digitsOf_size]
    rw [Bool.and_eq_true]
    refine ⟨List.all_eq_true.2 (fun c hc => ?_), by decide⟩
    unfold digitsOf at hc
    obtain ⟨j, _, rfl⟩ := List.mem_map.1 hc
    have : ∀ d : Nat, d < 16 → isSign (hexSign d).toUInt8 = true := by decide
    exact this _ (digitAt_lt _ _)
  rw [keyOf_yes (by
    unfold okKey
    simp [hd, hp])]
  apply text_ext
  unfold keyData bar spaceByte
  rw [barred_cons, barred_cons]
  simp [barred, ByteArray.data_append]
theorem place_part (i : Nat) : isPart isSign 16 (placeOf i) = true := by
  unfold isPart
  rw [place_size, Bool.and_eq_true]
  refine ⟨List.all_eq_true.2 (fun c hc => ?_), by decide⟩
  unfold placeOf at hc
  rw [ByteArray.data_append, Array.toList_append] at hc
  rcases List.mem_append.1 hc with hc | hc
  · rw [List.mem_singleton.1 hc]
    decide
  · rw [ByteArray.data_extract, Array.toList_extract] at hc
    unfold List.extract at hc
    have hc := List.mem_of_mem_drop (List.mem_of_mem_take hc)
    unfold digitsOf at hc
    obtain ⟨j, _, rfl⟩ := List.mem_map.1 hc
    have : ∀ d : Nat, d < 16 → isSign (hexSign d).toUInt8 = true := by decide
    exact this _ (digitAt_lt _ _)
theorem who_size {s : ByteArray} (h : isWho s = true) : s.size ≤ 8 := by
  unfold isWho at h
  rw [← data_length]
  cases hs : s.data.toList with
  | nil => rw [hs] at h; cases h
  | cons c t =>
    rw [hs] at h
    simp only [Bool.and_eq_true, decide_eq_true_eq] at h
    have := h.2
    simp only [List.length_cons]
    omega
theorem leg_some (n i : Nat) (g : Leg_) (hg : legOk g = true) (h64 : in64 g.f2) : journal_leg.f (pairLeg n i g).f0 (pairLeg n i g).f1 = some (g.f0, g.f1, g.f2, true) := by
  unfold legOk at hg
  simp only [Bool.and_eq_true] at hg
  have h1 := (isPart_size hg.1.2).2
  have h0 := who_size hg.1.1
  unfold journal_leg.f
  show (strings_Split.f (g.f0 ++ bar ++ g.f1 ++ bar ++ amountOf g.f2) _).bind _ = _
  rw [split_some (noBar_who hg.1.1) (noBar_up hg.1.2) (noBar_amount h64) (by omega) (by omega) (Nat.le_trans (text_size h64) (by decide)), Option.bind_some]
  rw [if_pos (by simp), if_pos (by simp)]
  show (coin_Parse.f (amountOf g.f2)).bind _ = _
  rw [amount_parse h64, Option.bind_some, if_pos (by simp), if_pos (by simp)]
  rfl
theorem legsFrom_get (n : Nat) : ∀ (l : List Leg_) (s i : Nat) (h : i < (legsFrom n s l).length) (h2 : i < l.length), (legsFrom n s l)[i] = pairLeg n (s + i) l[i]
  | g :: t, s, 0, _, _ => rfl
  | g :: t, s, i + 1, h, h2 => by
    have := legsFrom_get n t (s + 1) i (by simpa [legsFrom] using h) (by simpa using h2)
    simp only [legsFrom, List.getElem_cons_succ]
    rw [this]
    congr 1
    omega
theorem first_loop (n d : Nat) (rq : ByteArray) (l : List Leg_) (hl : l.length ≤ 1000) (hg : ∀ g ∈ l, legOk g = true) (h64 : ints64 l) : ∀ (m i : Nat), l.length - i = m → i ≤ l.length →
    Ev (fun k => journal_first.l0 k (l.length : Int) (legsFrom n 0 l) ((legsFrom n 0 l).length : Int) (i : Int) (n : Int) (d : Int) rq (l.take i)) ((n : Int), (d : Int), rq, l, 1 + (l.length : Int), true) := by
  have hlen := legsFrom_length n l 0
  intro m
  induction m with
  | zero =>
    intro i hm hi
    obtain rfl : i = l.length := by omega
    refine ev_succ ?_
    simp only [journal_first.l0]
    refine ev_neg (by omega) (ev_some ?_)
    rw [List.take_length, wrap_in (by omega) (by omega)]
  | succ m ih =>
    intro i hm hi
    have hlt : i < l.length := by omega
    refine ev_succ ?_
    simp only [journal_first.l0]
    rw [rd_pair (legsFrom n 0 l) i (by omega), legsFrom_get n l 0 i (by omega) hlt, wrap_small (by omega : i ≤ l.length) (by omega)]
    refine ev_pos (by omega) (ev_pos (by omega) (ev_pos (by omega) (ev_opt (leg_some n (0 + i) l[i] (hg _ (List.getElem_mem hlt)) (h64 _ (List.getElem_mem hlt))) (ev_pos rfl (ev_pos (by rw [List.length_take]; omega) ?_)))))
    have e : l.take i ++ [(⟨l[i].f0, l[i].f1, l[i].f2⟩ : Leg_)] = l.take (i + 1) := by
      rw [List.take_succ_eq_append_getElem hlt]
    rw [e]
    exact ih (i + 1) (by omega) (by omega)
theorem first_ev (n d : Nat) (hn : n < 18446744073709551616) (hd : d < 18446744073709551616) (rq : ByteArray) (l : List Leg_) (hc : checkB rq l = true) (h64 : ints64 l) (rest : List Pair_) (hr : rest.length ≤ 1000000) :
    Ev (fun k => journal_first.f k (pairsOf n d rq l ++ rest)) ((n : Int), (d : Int), rq, l, 1 + (l.length : Int), true) := by
  obtain ⟨c1, c2, c3, c4, _⟩ := check_get hc
  have h6 : in64 (l.length : Int) := by unfold in64; omega
  have hlen := legsFrom_length n l 0
  have h1 := (isPart_size c1).2
  have ht := text_size h6
  unfold journal_first.f
  have e0 : rd_T36 (pairsOf n d rq l ++ rest) 0 = pairHead n d rq l := rfl
  rw [e0]
  have hln : (pairsOf n d rq l ++ rest).length = 1 + l.length + rest.length := by
    unfold pairsOf
    simp only [List.length_append, List.length_cons, hlen]
    omega
  refine ev_pos (by omega) ?_
  have s1 : strings_Split.f (pairHead n d rq l).f0 (⟨#[124]⟩ : ByteArray) = some [⟨#[101]⟩, digitsOf n, ⟨#[48]⟩] := by
    show strings_Split.f (keyAt n ⟨#[48]⟩) _ = _
    rw [keyAt_is n ⟨#[48]⟩ (by decide)]
    exact split_some (fun b hb => by rw [List.mem_singleton.1 hb]; decide) (noBar_digits n) (fun b hb => by rw [List.mem_singleton.1 hb]; decide) (by decide) (by rw [digitsOf_size]; decide) (by decide)
  have s2 : strings_Split.f (pairHead n d rq l).f1 (⟨#[124]⟩ : ByteArray) = some [digitsOf d, rq, amountOf (l.length : Int)] :=
    split_some (noBar_digits d) (noBar_part c1) (noBar_amount h6) (by rw [digitsOf_size]; decide) (by omega) (by omega)
  refine ev_opt s1 (ev_opt s2 (ev_pos rfl (ev_succ ?_)))
  simp only [journal_first.j0]
  refine ev_neg (by simp) (ev_pos (by simp) (ev_pos (by simp) (ev_opt (number_digits n hn) (ev_pos (by simp) (ev_opt (number_digits d hd) (ev_pos (by simp) (ev_opt (amount_parse h6) ?_)))))))
  refine ev_pos rfl (ev_pos rfl (ev_pos rfl (ev_neg (by omega) ?_)))
  rw [wrap_in (by omega) (by omega), decide_eq_false (by omega)]
  refine ev_succ ?_
  simp only [journal_first.j1]
  rw [wrap_in (by omega) (by omega)]
  refine ev_neg (by decide) (ev_pos (by omega) (ev_pos (by omega) (ev_opt rfl ?_)))
  have ex : ((pairsOf n d rq l ++ rest).take (1 + (l.length : Int)).toNat).drop 1 = legsFrom n 0 l := by
    rw [show (1 + (l.length : Int)).toNat = l.length + 1 by omega]
    unfold pairsOf
    rw [List.cons_append, List.take_succ_cons, List.drop_succ_cons, List.drop_zero, ← hlen, List.take_left']
    rfl
  rw [ex]
  exact first_loop n d rq l (by omega) c4 h64 _ 0 rfl (by omega)
end Go.Proofs.YtjlifcbddednaaaDoor.E
namespace Go.Proofs.YtjlifcbddednaaaDoor.E
open Go.RowKit Go.Proofs.YtjlifcbddednaaaDoor.P Go.Proofs.YtjlifcbddednaaaDoorW.PrintWords Go.Proofs.YtjlifcbddednaaaDoorW.PrintLast
theorem same_api_loop (l : List Pair_) (hl : l.length ≤ 1000000) : ∀ (m i : Nat), l.length - i = m → i ≤ l.length → Ev (fun k => api_Pair.l0 k l l (l.length : Int) (i : Int)) true := by
  intro m
  induction m with
  | zero =>
    intro i hm hi
    obtain rfl : i = l.length := by omega
    refine ev_succ ?_
    simp only [api_Pair.l0]
    exact ev_neg (by omega) (ev_some rfl)
  | succ m ih =>
    intro i hm hi
    have hlt : i < l.length := by omega
    refine ev_succ ?_
    simp only [api_Pair.l0]
    rw [rd_pair l i hlt, wrap_small (by omega : i ≤ l.length) hl]
    exact ev_pos (by omega) (ev_pos (by omega) (ev_pos (by omega) (ev_pos (by omega) (ev_neg (by simp) (ih (i + 1) (by omega) (by omega))))))
theorem same_api (l : List Pair_) (hl : l.length ≤ 1000000) : Ev (fun k => api_Pair.f k l l) true := by
  unfold api_Pair.f
  exact ev_pos rfl (same_api_loop l hl _ 0 rfl (by omega))
theorem rd_ent (l : List Ent_) (i : Nat) (h : i < l.length) : rd_T26 l (i : Int) = l[i] := by
  unfold rd_T26
  rw [List.getD_eq_getElem?_getD, Int.toNat_natCast, List.getElem?_eq_getElem h]
  rfl
theorem same_ent_loop (n d : Int) (rq : ByteArray) (l : List Leg_) (hl : l.length ≤ 1000000) : ∀ (m i : Nat), l.length - i = m → i ≤ l.length → Ev (fun k => cambistref12_Same.l0 k (i : Int) n d rq l n d rq l) true := by
  intro m
  induction m with
  | zero =>
    intro i hm hi
    obtain rfl : i = l.length := by omega
    refine ev_succ ?_
    simp only [cambistref12_Same.l0]
    exact ev_neg (by omega) (ev_some rfl)
  | succ m ih =>
    intro i hm hi
    have hlt : i < l.length := by omega
    refine ev_succ ?_
    simp only [cambistref12_Same.l0]
    rw [rd_leg l i hlt, wrap_small (by omega : i ≤ l.length) hl]
    exact ev_pos (by omega) (ev_pos (by omega) (ev_pos (by omega) (ev_neg (by simp) (ih (i + 1) (by omega) (by omega)))))
theorem same_ent (n d : Int) (rq : ByteArray) (l : List Leg_) (hl : l.length ≤ 1000000) : Ev (fun k => cambistref12_Same.f k n d rq l n d rq l) true := by
  unfold cambistref12_Same.f
  refine ev_pos rfl (ev_pos rfl (ev_pos rfl (ev_succ ?_)))
  simp only [cambistref12_Same.j0]
  exact ev_neg (by simp) (same_ent_loop n d rq l hl _ 0 rfl (by omega))
theorem same_all_loop (l : List Ent_) (hl : l.length ≤ 1000000) (hg : ∀ x ∈ l, x.f3.length ≤ 1000000) : ∀ (m i : Nat), l.length - i = m → i ≤ l.length → Ev (fun k => cambistref12_SameAll.l0 k l l (i : Int)) true := by
  intro m
  induction m with
  | zero =>
    intro i hm hi
    obtain rfl : i = l.length := by omega
    refine ev_succ ?_
    simp only [cambistref12_SameAll.l0]
    exact ev_neg (by omega) (ev_some rfl)
  | succ m ih =>
    intro i hm hi
    have hlt : i < l.length := by omega
    refine ev_succ ?_
    simp only [cambistref12_SameAll.l0]
    rw [rd_ent l i hlt, wrap_small (by omega : i ≤ l.length) hl]
    exact ev_pos (by omega) (ev_pos (by omega) (ev_pos (by omega) (ev_call (same_ent _ _ _ _ (hg _ (List.getElem_mem hlt))) (ev_pos rfl (ih (i + 1) (by omega) (by omega))))))
theorem same_all (l : List Ent_) (hl : l.length ≤ 1000000) (hg : ∀ x ∈ l, x.f3.length ≤ 1000000) : Ev (fun k => cambistref12_SameAll.f k l l) true := by
  unfold cambistref12_SameAll.f
  exact ev_pos rfl (same_all_loop l hl hg _ 0 rfl (by omega))
/-- An entry that may be, its numbers in their range. -/
structure EntOk (x : Ent_) : Prop where
  n0 : 0 ≤ x.f0
  n1 : x.f0 < 18446744073709551616
  d0 : 0 ≤ x.f1
  d1 : x.f1 < 18446744073709551616
  chk : checkB x.f2 x.f3 = true
  h64 : ints64 x.f3
theorem EntOk.sizes {x : Ent_} (h : EntOk x) : x.f2.size ≤ 12 ∧ x.f3.length ≤ 200 ∧ ∀ g ∈ x.f3, g.f0.size ≤ 8 ∧ g.f1.size ≤ 6 := by
  obtain ⟨c1, c2, c3, c4, _⟩ := check_get h.chk
  have := (isPart_size c1).2
  refine ⟨by omega, c3, fun g hg => ?_⟩
  have h4 := c4 g hg
  unfold legOk at h4
  simp only [Bool.and_eq_true] at h4
  have h5 := (isPart_size h4.1.2).2
  exact ⟨who_size h4.1.1, by omega⟩
def pairsE (x : Ent_) : List Pair_ := pairsOf x.f0.toNat x.f1.toNat x.f2 x.f3
def pairsAll (l : List Ent_) : List Pair_ := l.flatMap pairsE
theorem pairsE_length (x : Ent_) : (pairsE x).length = x.f3.length + 1 := by
  unfold pairsE pairsOf
  rw [List.length_cons, legsFrom_length]
theorem pairsE_ev {x : Ent_} (h : EntOk x) : Ev (fun k => journal_Pairs.f k x.f0 x.f1 x.f2 x.f3) (pairsE x, 0) := by
  obtain ⟨s1, s2, s3⟩ := h.sizes
  have := h.n0
  have := h.n1
  have := h.d0
  have := h.d1
  have e := pairs_ev x.f0.toNat x.f1.toNat (by omega) (by omega) x.f2 x.f3 (by omega) (by omega) (fun g hg => by have := s3 g hg; omega) h.h64
  rw [Int.toNat_of_nonneg h.n0, Int.toNat_of_nonneg h.d0] at e
  unfold pairsTo at e
  rwa [if_pos h.chk] at e
theorem read_ev : ∀ (es out : List Ent_) (m : Nat), es.length < m → (∀ x ∈ es, EntOk x) → (pairsAll es).length ≤ 1000000 → out.length + es.length ≤ 1000 → (es.Pairwise fun a b => a.f0 < b.f0) → (∀ o ∈ out, ∀ x ∈ es, o.f0 < x.f0) → Ev (fun k => readL k m (pairsAll es) out) (out ++ es, 0)
  | [], out, m + 1, _, _, _, _, _, _ => by
    refine ev_pos rfl (ev_some ?_)
    rw [List.append_nil]
  | x :: es, out, m + 1, hm, hok, hpl, hol, hp, ho => by
    have hx := hok x (List.mem_cons_self ..)
    obtain ⟨hp1, hp2⟩ := List.pairwise_cons.1 hp
    have hlx := pairsE_length x
    have e : pairsAll (x :: es) = pairsE x ++ pairsAll es := List.flatMap_cons
    rw [e] at hpl ⊢
    rw [List.length_append] at hpl
    obtain ⟨s1, s2, s3⟩ := hx.sizes
    have := hx.n0
    have := hx.n1
    have := hx.d0
    have := hx.d1
    rw [List.length_cons] at hol hm
    have hf := first_ev x.f0.toNat x.f1.toNat (by omega) (by omega) x.f2 x.f3 hx.chk hx.h64 (pairsAll es) (by omega)
    rw [Int.toNat_of_nonneg hx.n0, Int.toNat_of_nonneg hx.d0] at hf
    have hcn : (1 + (x.f3.length : Int)).toNat = (pairsE x).length := by omega
    refine ev_neg (by rw [List.length_append]; omega) (ev_call hf ?_)
    refine ev_neg ?_ (ev_call (pairsE_ev hx) (ev_pos rfl (ev_pos ⟨by simp only; omega, by simp only [List.length_append]; omega, by omega⟩ ?_)))
    · rintro (h | ⟨h1, h2⟩)
      · cases h
      · have hm : out.getD (out.length - 1) eZ ∈ out := getD_mem_ out _ (by omega) _
        have := ho _ hm x (List.mem_cons_self ..)
        simp only at h2
        omega
    · simp only
      rw [hcn, List.take_left', List.drop_left'] <;> try rfl
      refine ev_call (same_api _ (by omega)) (ev_pos rfl ?_)
      have e2 : out ++ x :: es = (out ++ [x]) ++ es := by simp
      rw [e2]
      exact read_ev es (out ++ [x]) m (by omega) (fun y hy => hok y (List.mem_cons_of_mem _ hy)) (by omega) (by simp; omega) hp2 (fun o ho' y hy => by
        rcases List.mem_append.1 ho' with h | h
        · exact ho o h y (List.mem_cons_of_mem _ hy)
        · rw [List.mem_singleton.1 h]; exact hp1 y hy)
end Go.Proofs.YtjlifcbddednaaaDoor.E
namespace Go.Proofs.YtjlifcbddednaaaDoor.E
open Go.RowKit Go.Proofs.YtjlifcbddednaaaDoor.P Go.Proofs.YtjlifcbddednaaaDoorW.PrintWords Go.Proofs.YtjlifcbddednaaaDoorW.PrintLast
theorem less_same (x y z : List UInt8) : Op.bytesLess (x ++ y) (x ++ z) = Op.bytesLess y z := by
  induction x with
  | nil => rfl
  | cons b x ih =>
    simp only [List.cons_append, Op.bytesLess, ih]
    simp
theorem less_long : ∀ (x y u v : List UInt8), x.length = y.length → Op.bytesLess x y = true → Op.bytesLess (x ++ u) (y ++ v) = true
  | [], [], _, _, _, h => by cases h
  | a :: x, b :: y, u, v, hl, h => by
    simp only [List.cons_append, Op.bytesLess, Bool.or_eq_true, Bool.and_eq_true] at h ⊢
    rcases h with h | ⟨h1, h2⟩
    · exact .inl h
    · exact .inr ⟨h1, less_long x y u v (by simpa using hl) h2⟩
  | [], _ :: _, _, _, hl, _ => by cases hl
  | _ :: _, [], _, _, hl, _ => by cases hl
theorem key_data (n : Nat) (p : ByteArray) (hp : isPart isSign 16 p = true) : (keyAt n p).toList = 101 :: 124 :: (digitsRec 16 n ++ 124 :: p.data.toList) := by
  rw [toList_data, keyAt_is n p hp]
  unfold bar
  simp [ByteArray.data_append, digitsOf_data]
theorem key_up {n m : Nat} (hn : n < 18446744073709551616) (hm : m < 18446744073709551616) (h : n < m) {p q : ByteArray} (hp : isPart isSign 16 p = true) (hq : isPart isSign 16 q = true) : Op.bytesLess (keyAt n p).toList (keyAt m q).toList = true := by
  rw [key_data n p hp, key_data m q hq]
  have e := less_same [101, 124] (digitsRec 16 n ++ 124 :: p.data.toList) (digitsRec 16 m ++ 124 :: q.data.toList)
  refine e.trans (less_long _ _ _ _ (by rw [digitsRec_length, digitsRec_length]) ?_)
  have := digitsOf_less hn hm
  rw [toList_data, toList_data, digitsOf_data, digitsOf_data] at this
  rw [this]
  exact decide_eq_true h
theorem key_part (n : Nat) {p q : ByteArray} (hp : isPart isSign 16 p = true) (hq : isPart isSign 16 q = true) (h : Op.bytesLess p.data.toList q.data.toList = true) : Op.bytesLess (keyAt n p).toList (keyAt n q).toList = true := by
  rw [key_data n p hp, key_data n q hq]
  have e := less_same (101 :: 124 :: (digitsRec 16 n ++ [124])) p.data.toList q.data.toList
  simp only [List.cons_append, List.append_assoc, List.nil_append] at e
  rw [e, h]
theorem place_data (i : Nat) : (placeOf i).data.toList = 49 :: digitsRec 4 i := by
  unfold placeOf
  rw [ByteArray.data_append, Array.toList_append, ByteArray.data_extract, Array.toList_extract, digitsOf_size, digitsOf_data]
  rfl
theorem place_up {i j : Nat} (hj : j < 65536) (h : i < j) : Op.bytesLess (placeOf i).data.toList (placeOf j).data.toList = true := by
  rw [place_data, place_data]
  refine (less_same [49] (digitsRec 4 i) (digitsRec 4 j)).trans ?_
  rw [less_digits]
  have e : (16 : Nat) ^ 4 = 65536 := by decide
  rw [e, Nat.mod_eq_of_lt (by omega), Nat.mod_eq_of_lt hj]
  exact decide_eq_true h
theorem zero_part : isPart isSign 16 (⟨#[48]⟩ : ByteArray) = true := by decide
theorem zero_up (i : Nat) : Op.bytesLess (⟨#[48]⟩ : ByteArray).data.toList (placeOf i).data.toList = true := by
  rw [place_data]
  rfl
def before (p q : Pair_) : Prop := Op.bytesLess p.f0.toList q.f0.toList = true
theorem legs_up (n : Nat) : ∀ (l : List Leg_) (i : Nat), i + l.length ≤ 65536 → (legsFrom n i l).Pairwise before ∧ ∀ p ∈ legsFrom n i l, ∃ j, i ≤ j ∧ j < i + l.length ∧ p.f0 = keyAt n (placeOf j)
  | [], i, _ => ⟨List.Pairwise.nil, fun p hp => by cases hp⟩
  | g :: t, i, h => by
    rw [List.length_cons] at h
    obtain ⟨h1, h2⟩ := legs_up n t (i + 1) (by omega)
    refine ⟨List.pairwise_cons.2 ⟨fun p hp => ?_, h1⟩, fun p hp => ?_⟩
    · obtain ⟨j, hj1, hj2, e⟩ := h2 p hp
      unfold before
      rw [e]
      exact key_part n (place_part i) (place_part j) (place_up (by omega) (by omega))
    · rw [List.length_cons]
      rcases List.mem_cons.1 hp with rfl | hp
      · exact ⟨i, Nat.le_refl _, by omega, rfl⟩
      · obtain ⟨j, hj1, hj2, e⟩ := h2 p hp
        exact ⟨j, by omega, by omega, e⟩
theorem pairsE_up {x : Ent_} (h : EntOk x) : (pairsE x).Pairwise before ∧ ∀ p ∈ pairsE x, ∃ q, isPart isSign 16 q = true ∧ q.size ≤ 5 ∧ p.f0 = keyAt x.f0.toNat q := by
  obtain ⟨s1, s2, s3⟩ := h.sizes
  obtain ⟨h1, h2⟩ := legs_up x.f0.toNat x.f3 0 (by omega)
  refine ⟨List.pairwise_cons.2 ⟨fun p hp => ?_, h1⟩, fun p hp => ?_⟩
  · obtain ⟨j, _, _, e⟩ := h2 p hp
    unfold before
    rw [e]
    exact key_part _ zero_part (place_part j) (zero_up j)
  · rcases List.mem_cons.1 hp with rfl | hp
    · exact ⟨⟨#[48]⟩, zero_part, by decide, rfl⟩
    · obtain ⟨j, _, _, e⟩ := h2 p hp
      exact ⟨placeOf j, place_part j, by rw [place_size]; decide, e⟩
theorem pairs_up : ∀ (es : List Ent_), (∀ x ∈ es, EntOk x) → (es.Pairwise fun a b => a.f0 < b.f0) → (pairsAll es).Pairwise before
  | [], _, _ => List.Pairwise.nil
  | x :: es, hok, hp => by
    obtain ⟨hp1, hp2⟩ := List.pairwise_cons.1 hp
    have e : pairsAll (x :: es) = pairsE x ++ pairsAll es := List.flatMap_cons
    rw [e, List.pairwise_append]
    have hx := hok x (List.mem_cons_self ..)
    refine ⟨(pairsE_up hx).1, pairs_up es (fun y hy => hok y (List.mem_cons_of_mem _ hy)) hp2, fun p hp' q hq => ?_⟩
    obtain ⟨u, hu, _, eu⟩ := (pairsE_up hx).2 p hp'
    obtain ⟨y, hy, hqy⟩ := List.mem_flatMap.1 hq
    have hyo := hok y (List.mem_cons_of_mem _ hy)
    obtain ⟨v, hv, _, ev⟩ := (pairsE_up hyo).2 q hqy
    have hlt := hp1 y hy
    have := hx.n0
    have := hx.n1
    have := hyo.n0
    have := hyo.n1
    unfold before
    rw [eu, ev]
    exact key_up (by omega) (by omega) (by omega) hu hv
theorem pairsE_short {x : Ent_} (h : EntOk x) : ∀ p ∈ pairsE x, p.f0.size ≤ 48 ∧ p.f1.size ≤ 100 := by
  obtain ⟨s1, s2, s3⟩ := h.sizes
  have hb : bar.size = 1 := rfl
  intro p hp
  constructor
  · obtain ⟨q, hq, hs, e⟩ := (pairsE_up h).2 p hp
    rw [e, keyAt_is _ q hq]
    simp only [size_app]
    rw [digitsOf_size]
    have : (⟨#[101]⟩ : ByteArray).size = 1 := rfl
    omega
  · rcases List.mem_cons.1 hp with rfl | hp
    · have h6 : in64 (x.f3.length : Int) := by unfold in64; omega
      have := text_size h6
      have := digitsOf_size x.f1.toNat
      unfold pairHead
      simp only [size_app]
      omega
    · have legs : ∀ (l : List Leg_) (i : Nat), (∀ g ∈ l, g.f0.size ≤ 8 ∧ g.f1.size ≤ 6) → ints64 l → ∀ p ∈ legsFrom x.f0.toNat i l, p.f1.size ≤ 100 := by
        intro l
        induction l with
        | nil => intro i _ _ p hp; cases hp
        | cons g t ih =>
          intro i hs h6 p hp
          rcases List.mem_cons.1 hp with rfl | hp
          · have h1 := hs g (List.mem_cons_self ..)
            have h2 := text_size (h6 g (List.mem_cons_self ..))
            unfold pairLeg
            simp only [size_app]
            omega
          · exact ih (i + 1) (fun y hy => hs y (List.mem_cons_of_mem _ hy)) (fun y hy => h6 y (List.mem_cons_of_mem _ hy)) p hp
      exact legs x.f3 0 s3 h.h64 p hp
theorem pairs_short {es : List Ent_} (hok : ∀ x ∈ es, EntOk x) : ∀ p ∈ pairsAll es, p.f0.size ≤ 48 ∧ p.f1.size ≤ 100 := fun p hp => by
  obtain ⟨x, hx, hpx⟩ := List.mem_flatMap.1 hp
  exact pairsE_short (hok x hx) p hpx
end Go.Proofs.YtjlifcbddednaaaDoor.E
namespace Go.Proofs.YtjlifcbddednaaaDoor.E
open Go.RowKit Go.Proofs.YtjlifcbddednaaaDoor.P Go.Proofs.YtjlifcbddednaaaDoorW.PrintWords Go.Proofs.YtjlifcbddednaaaDoorW.PrintLast Go.Proofs.YtjlifcbddednaaaDoorW.PrintMore
abbrev kFixB (w : World) : Kd Ent_ := Kd.fixed k26 w
theorem fixB_read {w W : World} {A : Option Addr} {n : Nat} {l : List Ent_} (h : (kFixB w).C W A n l) (hb : Below w.heap.size w W) : Kd.C k26 W A n l :=
  ReadsRow.imp_ h (Below.refl _ _) (fun _ _ hp => (k26).K_below hb hp)
theorem entB_mk {w : World} {A : Option Addr} {c : Nat} (x : Ent_) (hc : x.f3.length ≤ c) (h : Kd.C k42 w A x.f3.length x.f3) : (k26).K w x [.int .u64 x.f0, .int .u64 x.f1, .string x.f2, .slice A x.f3.length c] := ⟨[.int .u64 x.f0], [.int .u64 x.f1, .string x.f2, .slice A x.f3.length c], rfl, rfl, ⟨[.int .u64 x.f1], [.string x.f2, .slice A x.f3.length c], rfl, rfl, ⟨[.string x.f2], [.slice A x.f3.length c], rfl, rfl, ⟨A, c, rfl, hc, h⟩⟩⟩⟩
/-- The number of the last that was kept. -/
def lastN (acc : List Ent_) : Int := (acc.getD (acc.length - 1) eZ).f0
def takesB (acc : List Ent_) (x : Ent_) : Bool := fewB x.f2 x.f3 && !(decide (0 < acc.length) && decide (x.f0 ≤ lastN acc)) && checkB x.f2 x.f3
def stepB (acc : List Ent_) (x : Ent_) : List Ent_ := if takesB acc x = true then acc ++ [x] else acc
def goodTo (l : List Ent_) (k : Nat) : List Ent_ := (l.take k).foldl stepB []
theorem goodTo_next (l : List Ent_) (k : Nat) (hk : k < l.length) (z : Ent_) : goodTo l (k + 1) = stepB (goodTo l k) (l.getD k z) := by
  unfold goodTo
  rw [take_snoc_ l k hk z, List.foldl_append]
  rfl
theorem ent_ok {x : Ent_} (h : goodEnt x) (hc : checkB x.f2 x.f3 = true) : EntOk x := by
  have h0 := h.1
  have h1 := h.2.1
  simp [Lit.wf, IntKind.min, IntKind.max, IntKind.signed, IntKind.bits] at h0 h1
  refine ⟨by omega, by omega, by omega, by omega, hc, fun g hg => ?_⟩
  have := (h.2.2.2.1 g hg).2.2
  simp [Lit.wf] at this
  exact this
/-- What is kept: may be, and rises. -/
structure GoodB (acc : List Ent_) : Prop where
  ok : ∀ x ∈ acc, EntOk x
  up : acc.Pairwise fun a b => a.f0 < b.f0
theorem GoodB.last {acc : List Ent_} (h : GoodB acc) : ∀ o ∈ acc, o.f0 ≤ lastN acc := by
  intro o ho
  obtain ⟨i, hi, rfl⟩ := List.getElem_of_mem ho
  unfold lastN
  rw [List.getD_eq_getElem?_getD, List.getElem?_eq_getElem (by omega : acc.length - 1 < acc.length)]
  show acc[i].f0 ≤ acc[acc.length - 1].f0
  by_cases e : i = acc.length - 1
  · subst e
    exact Int.le_refl _
  · have := List.pairwise_iff_getElem.1 h.up i (acc.length - 1) hi (by omega) (by omega)
    omega
theorem goodTo_facts (l : List Ent_) (hg : ∀ a ∈ l, goodEnt a) : ∀ k, k ≤ l.length → GoodB (goodTo l k) ∧ (goodTo l k).length ≤ k
  | 0, _ => ⟨⟨fun x hx => (by cases hx), List.Pairwise.nil⟩, Nat.le_refl _⟩
  | k + 1, h => by
    obtain ⟨h1, h2⟩ := goodTo_facts l hg k (by omega)
    rw [goodTo_next l k (by omega) eZ]
    have hx := hg _ (getD_mem_ l k (by omega) eZ)
    generalize l.getD k eZ = x at hx ⊢
    generalize goodTo l k = acc at h1 h2 ⊢
    unfold stepB
    cases ht : takesB acc x with
    | false =>
      rw [if_neg (by simp)]
      exact ⟨h1, by omega⟩
    | true =>
      rw [if_pos rfl]
      unfold takesB at ht
      simp only [Bool.and_eq_true, Bool.not_eq_true', Bool.and_eq_false_iff, decide_eq_false_iff_not] at ht
      refine ⟨⟨fun y hy => ?_, ?_⟩, by simp; omega⟩
      · rcases List.mem_append.1 hy with hy | hy
        · exact h1.ok y hy
        · rw [List.mem_singleton.1 hy]
          exact ent_ok hx ht.2
      · rw [List.pairwise_append]
        refine ⟨h1.up, by simp, fun o ho y hy => ?_⟩
        rw [List.mem_singleton.1 hy]
        have h3 := h1.last o ho
        have h4 : 0 < acc.length := List.length_pos_of_mem ho
        rcases ht.1.2 with h5 | h5
        · omega
        · omega
theorem pairsAll_length (l : List Ent_) (h : ∀ x ∈ l, EntOk x) : (pairsAll l).length ≤ 201 * l.length := by
  induction l with
  | nil => exact Nat.le_refl _
  | cons x l ih =>
    have e : pairsAll (x :: l) = pairsE x ++ pairsAll l := List.flatMap_cons
    have h1 := ih (fun y hy => h y (List.mem_cons_of_mem _ hy))
    have h2 := (h x (List.mem_cons_self ..)).sizes.2.1
    rw [e, List.length_append, pairsE_length, List.length_cons]
    omega
theorem pairsAll_more (l : List Ent_) : l.length ≤ (pairsAll l).length := by
  induction l with
  | nil => exact Nat.le_refl _
  | cons x l ih =>
    have e : pairsAll (x :: l) = pairsE x ++ pairsAll l := List.flatMap_cons
    rw [e, List.length_append, pairsE_length, List.length_cons]
    omega
theorem pairsAll_app (l : List Ent_) (x : Ent_) : pairsAll (l ++ [x]) = pairsAll l ++ pairsE x := by
  unfold pairsAll
  rw [List.flatMap_append]
  simp
theorem less_asym : ∀ x y : List UInt8, Op.bytesLess x y = true → (Op.bytesLess y x || y == x) = false
  | [], [], h => by cases h
  | [], _ :: _, _ => rfl
  | _ :: _, [], h => by cases h
  | a :: x, b :: y, h => by
    simp only [Op.bytesLess, Bool.or_eq_true, Bool.and_eq_true, decide_eq_true_eq, beq_iff_eq] at h
    rcases h with h | ⟨h1, h2⟩
    · have h3 : ¬ b < a := fun h4 => absurd (UInt8.lt_trans h h4) (UInt8.lt_irrefl a)
      have h4 : b ≠ a := fun e => by rw [e] at h; exact UInt8.lt_irrefl a h
      simp [Op.bytesLess, h3, h4]
    · subst h1
      have := less_asym x y h2
      rw [Bool.or_eq_false_iff] at this ⊢
      refine ⟨?_, ?_⟩
      · simp only [Op.bytesLess, this.1, Bool.and_false, Bool.or_false]
        simp
      · simpa using this.2
theorem k36_E : (k36).E = [] := rfl
/-- The first loop: what is kept, and its pairs. -/
structure BS (w : World) (good : List Ent_) (pairs : List Pair_) (vg vp : Value) (W : World) : Prop where
  good : Kd.R (kFixB w) 26 W w.heap.size (fun _ => True) vg good
  pairs : Kd.R k36 36 W w.heap.size (fun _ => True) vp pairs
  below : Below w.heap.size w W
  g0 : Glob w
theorem BS.step {w W W' : World} {good : List Ent_} {pairs : List Pair_} {vg vp : Value} (h : BS w good pairs vg vp W) (hb : Below W.heap.size W W') : BS w good pairs vg vp W' :=
  ⟨Kd.R_below h.good hb, Kd.R_below h.pairs hb, below_step h.below hb, h.g0⟩
theorem BS.glob {w W : World} {good : List Ent_} {pairs : List Pair_} {vg vp : Value} (h : BS w good pairs vg vp W) : Glob W := h.g0.below h.below
theorem BS.add_good {w W W1 : World} {good : List Ent_} {pairs : List Pair_} {vg vp v1 : Value} {x : Ent_} (h : BS w good pairs vg vp W) (ho : Kd.R (kFixB w) 26 W1 w.heap.size (fun _ => True) v1 (good ++ [x])) (hb : Below w.heap.size w W1) (hg : W.grownBy W1 vg.ownBlock) : BS w (good ++ [x]) pairs v1 vp W1 :=
  ⟨ho, Kd.R_over h.pairs h.good (fun q hq => by rcases List.mem_cons.1 hq with rfl | hq; · decide
                                                · cases hq) hg, hb, h.g0⟩
theorem BS.add_pairs {w W W1 : World} {good : List Ent_} {pairs ys : List Pair_} {vg vp v1 : Value} (h : BS w good pairs vg vp W) (ho : Kd.R k36 36 W1 w.heap.size (fun _ => True) v1 (pairs ++ ys)) (hb : Below w.heap.size w W1) (hg : W.grownBy W1 vp.ownBlock) : BS w good (pairs ++ ys) vg v1 W1 :=
  ⟨Kd.R_over h.good h.pairs (fun q hq => by rcases List.mem_cons.1 hq with rfl | hq; · decide
                                            · cases hq) hg, ho, hb, h.g0⟩
theorem fewB_calls (n d : Int) (rq : ByteArray) (A : Option Addr) (c : Nat) (l : List Leg_) (W : World) (hG : Glob W) (hC : Kd.C k42 W A l.length l) (hc : l.length ≤ c) :
    Calls Tryd.prog 9 #[.agg #[.int .u64 n, .int .u64 d, .string rq, .slice A l.length c]] W fun e w' => e = .returned (.bool (fewB rq l)) ∧ Below W.heap.size W w' := by
  obtain ⟨k, hk⟩ := (few_ev n d rq l).rounds
  exact cambistlaw12_few.calls k n d rq A c l _ W hG hC hc hk
theorem entsB_get {w : World} {A : Option Addr} {l : List Ent_} (h : Kd.C k26 w A l.length l) (k : Nat) (hk : k < l.length) :
    ∃ ad A3 c3, A = some ad ∧ w.cell? (ad.add (k * 4)) = some (.int .u64 (l.getD k eZ).f0) ∧ w.cell? ⟨(ad.add (k * 4)).block, (ad.add (k * 4)).off + 1, none⟩ = some (.int .u64 (l.getD k eZ).f1) ∧ w.cell? ⟨(ad.add (k * 4)).block, (ad.add (k * 4)).off + 2, none⟩ = some (.string (l.getD k eZ).f2) ∧
      w.cell? ⟨(ad.add (k * 4)).block, (ad.add (k * 4)).off + 3, none⟩ = some (.slice A3 (l.getD k eZ).f3.length c3) ∧ (l.getD k eZ).f3.length ≤ c3 ∧ Kd.C k42 w A3 (l.getD k eZ).f3.length (l.getD k eZ).f3 := by
  obtain ⟨ad, A3, c3, e, h0, h1, h2, h3, h4, h5⟩ := at_T26 h (k : Int) (by omega) (by omega)
  exact ⟨ad, A3, c3, e, h0, h1, h2, h3, h4, h5⟩
/-- An entry's pairs, or the error: the call. -/
theorem pairsB_calls (x : Ent_) (A : Option Addr) (c : Nat) (W : World) (hG : Glob W) (hC : Kd.C k42 W A x.f3.length x.f3) (hc : x.f3.length ≤ c) (hg : goodEnt x) (hf : fewB x.f2 x.f3 = true) :
    Calls Tryd.prog 10 #[.agg #[.int .u64 x.f0, .int .u64 x.f1, .string x.f2, .slice A x.f3.length c]] W fun e w' => ∃ v0_ : Value, e = .returned (.tuple #[v0_, .int .i64 (chkOf (checkB x.f2 x.f3))]) ∧ Kd.R k36 36 w' W.heap.size (fun _ => True) v0_ (if checkB x.f2 x.f3 = true then pairsE x else []) ∧ Below W.heap.size W w' := by
  unfold fewB at hf
  simp only [Bool.and_eq_true, decide_eq_true_eq] at hf
  have h0 := hg.1
  have h1 := hg.2.1
  simp [Lit.wf, IntKind.min, IntKind.max, IntKind.signed, IntKind.bits] at h0 h1
  have hs : ∀ g ∈ x.f3, g.f0.size ≤ 1000 ∧ g.f1.size ≤ 1000 := fun g hg' => by
    have := List.all_eq_true.1 hf.2 g hg'
    simp only [Bool.and_eq_true, decide_eq_true_eq] at this
    omega
  have h64 : ints64 x.f3 := fun g hg' => by
    have := (hg.2.2.2.1 g hg').2.2
    simp [Lit.wf] at this
    exact this
  have e := pairs_ev x.f0.toNat x.f1.toNat (by omega) (by omega) x.f2 x.f3 (by omega) (by omega) hs h64
  rw [Int.toNat_of_nonneg (by omega), Int.toNat_of_nonneg (by omega)] at e
  obtain ⟨k, hk⟩ := e.rounds
  have e2 : pairsTo x.f0.toNat x.f1.toNat x.f2 x.f3 = (if checkB x.f2 x.f3 = true then pairsE x else [], chkOf (checkB x.f2 x.f3)) := by
    unfold pairsTo chkOf
    cases checkB x.f2 x.f3 <;> rfl
  rw [e2] at hk
  exact journal_Pairs.calls k x.f0 x.f1 x.f2 A c x.f3 _ _ W hG hC hc hk
section
variable {P : Program} {ops : Array Oper} {Q : Exit → Act → World → Prop} {md : Region.Mode} {S : World → Prop} {ds : List Nat} {T : Bool × List (List Nat × List Nat)} {B : List Nat}
/-- One step of a region, each fact told where it is used. -/
theorem bu_ (N : Option Tmp) {fuel : Nat} {l : Array Bool} (l' : Array Bool) {a a' : Act} {w : World} (hT : Aside0 (rtab md ops = T)) (i : Nat) {oi : Oper} (h : wpAnyLast P md ops Q S ds fuel l' a' w) (hi : ops[i]? = some oi := by exact rfl) (hN : oi.dst = N := by exact rfl) (hc : anyT T l.toList l'.toList i = true := by kernel_rfl)
    (hQ : ∀ c a w, Q (.panic c) (a.put oi.dst undef) w → Q (.panic c) a w := by exact fun _ _ _ h => h) (hy : Yields P ops oi undef a := by exact Or.inr ⟨by rfl, rfl⟩) (ha : a.put N undef = a' := by (simp only [Act.put, List.setIfInBounds_toArray, List.set_cons_zero, List.set_cons_succ, i64_w, i32_w]; rfl)) : wpAnyLast P md ops Q S ds (fuel + 1) l a w :=
  pure_ l' hi hN (any_of hT.out hc) hQ hy ha h
theorem be_ (N : Option Tmp) {fuel : Nat} {l : Array Bool} (l' : Array Bool) {a a' : Act} {w : World} (hT : Aside0 (rtab md ops = T)) (i : Nat) {oi : Oper} {v : Value} (h : wpAnyLast P md ops Q S ds fuel l' a' w) (hi : ops[i]? = some oi := by exact rfl) (hN : oi.dst = N := by exact rfl) (hc : anyT T l.toList l'.toList i = true := by kernel_rfl)
    (hQ : ∀ c a w, Q (.panic c) (a.put oi.dst v) w → Q (.panic c) a w := by exact fun _ _ _ h => h) (hy : Yields P ops oi v a := by (refine Or.inl ⟨by rfl, ?_⟩; intro w'; go_simp; with_reducible rfl)) (ha : a.put N v = a' := by (simp only [Act.put, List.setIfInBounds_toArray, List.set_cons_zero, List.set_cons_succ, i64_w, i32_w]; rfl)) : wpAnyLast P md ops Q S ds (fuel + 1) l a w :=
  pure_ l' hi hN (any_of hT.out hc) hQ hy ha h
theorem bt4_ (N : Option Tmp) {fuel : Nat} {l : Array Bool} (l' : Array Bool) {a a' : Act} {w : World} (hT : Aside0 (rtab md ops = T)) (hB : Aside0 (waitsOk T.2 B = true)) (hS : S w) (i : Nat) {oi : Oper} {v : Value} (h : wpAnyLast P md ops Q S ds fuel l' a' w) (hi : ops[i]? = some oi := by exact rfl) (hN : oi.dst = N := by exact rfl) (hc : takeW T B ds l.toList l'.toList i = true := by kernel_rfl)
    (hQ : ∀ c a w, Q (.panic c) (a.put oi.dst v) w → Q (.panic c) a w := by exact fun _ _ _ h => h) (hy : YieldsIf P ops S oi v a := by (refine Or.inl ⟨by rfl, ?_⟩; rintro w' ⟨j0, j1, j2, j3⟩; go_simp; with_reducible rfl)) (ha : a.put N v = a' := by (simp only [Act.put, List.setIfInBounds_toArray, List.set_cons_zero, List.set_cons_succ, i64_w, i32_w]; rfl)) : wpAnyLast P md ops Q S ds (fuel + 1) l a w :=
  take_ l' hi hN (take_ofW hT.out hB.out hc) hQ hy hS ha h
theorem bt5_ (N : Option Tmp) {fuel : Nat} {l : Array Bool} (l' : Array Bool) {a a' : Act} {w : World} (hT : Aside0 (rtab md ops = T)) (hB : Aside0 (waitsOk T.2 B = true)) (hS : S w) (i : Nat) {oi : Oper} {v : Value} (h : wpAnyLast P md ops Q S ds fuel l' a' w) (hi : ops[i]? = some oi := by exact rfl) (hN : oi.dst = N := by exact rfl) (hc : takeW T B ds l.toList l'.toList i = true := by kernel_rfl)
    (hQ : ∀ c a w, Q (.panic c) (a.put oi.dst v) w → Q (.panic c) a w := by exact fun _ _ _ h => h) (hy : YieldsIf P ops S oi v a := by (refine Or.inl ⟨by rfl, ?_⟩; rintro w' ⟨j0, j1, j2, j3, j4⟩; go_simp; with_reducible rfl)) (ha : a.put N v = a' := by (simp only [Act.put, List.setIfInBounds_toArray, List.set_cons_zero, List.set_cons_succ, i64_w, i32_w]; rfl)) : wpAnyLast P md ops Q S ds (fuel + 1) l a w :=
  take_ l' hi hN (take_ofW hT.out hB.out hc) hQ hy hS ha h
end
def back7_T : Bool × List (List Nat × List Nat) := (true, [([], []), ([], []), ([0, 1], [0, 1]), ([2], [2]), ([3], [3]), ([4], [4]), ([5, 4], [5]), ([6], [6]), ([7, 6], [6, 7]), ([8, 6], [6, 8]), ([9, 6, 6], [6, 9]), ([10], [10]), ([10], [10]), ([11, 12, 10], [10, 11, 12]), ([13, 10], [10, 13]), ([14, 10], [10, 14]), ([10], [10]), ([10], [10]), ([17, 10], [10, 17]), ([18, 10], [10, 18]), ([16, 19, 10], [10, 16, 19]), ([20, 10], [10, 20]), ([21, 10], [10, 21]), ([15, 22, 10], [10, 15, 22]), ([10, 23, 6], [6, 10, 23]), ([6, 24], [6, 24])])
def back7_B : List Nat := [0, 0, 3, 7, 15, 31, 63, 127, 255, 511, 1023, 2047, 2047, 8191, 16383, 32767, 2047, 2047, 133119, 395263, 985087, 2033663, 4130815, 8388607, 16777215, 33554431]
theorem back7_tab : rtab .any (opsOf Tryd.f5 7) = back7_T := by kernel_rfl
theorem back7_bits : waitsOk back7_T.2 back7_B = true := by kernel_rfl
theorem info_p : (Tryd.prog.info? 36).map (fun i => (i.zero, i.size, i.bytes)) = some (some (.agg #[.string ⟨#[]⟩, .string ⟨#[]⟩]), 2, 32) := by kernel_rfl
structure StopB_ (p : Prop) : Prop where
  out : p
set_option maxHeartbeats 16000000 in
set_option maxRecDepth 100000 in
set_option linter.unusedSimpArgs false in
set_option linter.unusedVariables false in
theorem journalBack_true (w : World) (hG : Glob w) (A0 : Option Addr) (c0 : Nat) (l0 : List Ent_) (hg0 : ∀ a ∈ l0, goodEnt a) (hl0 : l0.length * Tryd.prog.bytesOf 26 ≤ lim) (hr0 : Kd.C k26 w A0 l0.length l0) (hc0 : l0.length ≤ c0) :
    Calls Tryd.prog 5 #[.slice A0 l0.length c0] w fun e w' => e = .returned (.bool true) ∧ Below w.heap.size w w' := by
  have HA : Hid (∀ W, Glob W → Calls Tryd.prog 8 #[] W fun e w' => e = .returned (.bool true) ∧ Below W.heap.size W w') := Lib.hid fun W hW => cambistlaw12_awake.calls true W hW rfl
  have HR := Lib.hid hr0; have HG0 := Lib.hid hg0
  have hmx : l0.length ≤ 9223372036854775807 := hr0.2.1
  have HMX := Lib.hid hmx
  have HG := Lib.hid hG
  have HFT := Lib.hid (goodTo_facts l0 hg0)
  clear hr0 hg0 hl0 hc0 hmx hG
  obtain ⟨i36, hi36, _, hz36, _⟩ := info_parts (show (Tryd.prog.info? 36).map (fun i => (i.zero, i.size, i.bytes)) = some (some (.agg #[.string ⟨#[]⟩, .string ⟨#[]⟩]), 2, 32) by kernel_rfl)
  go_enter Tryd.func5, Tryd.ntmps5
  go_wp2_with (go_at_call 8; refine (HA.out _ HG.out).mono ?_; rintro e w1 ⟨rfl, hb⟩; have HB1 := Lib.hid hb; clear hb)
  have HS : Hid (BS w (goodTo l0 0) (pairsAll (goodTo l0 0)) (.slice none 0 0) (.slice none 0 0) w1) := Lib.hid ⟨Kd.R_nil _ _ _ _ _, Kd.R_nil _ _ _ _ _, HB1.out, HG.out⟩
  go_loopw [4, 5, 6] (fun vg vp i wr => ∃ k : Nat, k ≤ l0.length ∧ k ≤ 10 ∧ i = .int .i64 k ∧ Hid (BS w (goodTo l0 k) (pairsAll (goodTo l0 k)) vg vp wr)) (fun _ _ i _ => 10 - (intOf i).toNat)
  case atStart => exact ⟨0, Nat.zero_le _, by decide, rfl, HS⟩
  case round =>
    clear HS HB1
    obtain ⟨k, hk, hk10, rfl, HS⟩ := hrel
    obtain ⟨wo, rfl⟩ : ∃ wo : World, wo = wr := ⟨_, rfl⟩
    by_cases hlt : k < l0.length
    · have hn1 : decide ((k : Int) < (l0.length : Int)) = true := decide_eq_true (by omega)
      have hn2 : decide (k < l0.length) = true := decide_eq_true hlt
      by_cases h10 : k < 10
      · have hn3 : decide ((k : Int) < 10) = true := decide_eq_true (by omega)
        have hn4 : decide (k < 10) = true := decide_eq_true h10
        obtain ⟨x, hx⟩ : ∃ x, l0.getD k eZ = x := ⟨_, rfl⟩
        obtain ⟨ad, A3, c3, had, q0, q1, q2, q3, hc3, hlegs⟩ := entsB_get HR.out k hlt
        subst had
        have hgx : goodEnt x := hx ▸ HG0.out _ (getD_mem_ l0 k hlt _)
        rw [hx] at q0 q1 q2 q3 hc3 hlegs
        have HNX := Lib.hid (goodTo_next l0 k hlt eZ)
        rw [hx] at HNX
        replace q0 := (HS.out.below.cell (World.block_lt_of_cell? w _ q0)).trans q0
        replace q1 := (HS.out.below.cell (World.block_lt_of_cell? w _ q1)).trans q1
        replace q2 := (HS.out.below.cell (World.block_lt_of_cell? w _ q2)).trans q2
        replace q3 := (HS.out.below.cell (World.block_lt_of_cell? w _ q3)).trans q3
        have HLG := Lib.hid hlegs; have HC3 := Lib.hid hc3; have HGX := Lib.hid hgx
        clear hlegs hc3 hgx hx
        have HFK := HFT.out k hk
        have HGD := Lib.hid HFK.1; have HGL := Lib.hid HFK.2
        clear HFK
        have HFW : Hid (∀ W, Below w.heap.size w W → Calls Tryd.prog 9 #[.agg #[.int .u64 x.f0, .int .u64 x.f1, .string x.f2, .slice A3 x.f3.length c3]] W fun e w' => e = .returned (.bool (fewB x.f2 x.f3)) ∧ Below W.heap.size W w') := Lib.hid (fun W hb => fewB_calls x.f0 x.f1 x.f2 A3 c3 x.f3 W (HG.out.below hb) (Kd.C_below HLG.out hb) HC3.out)
        obtain ⟨acc, hacc⟩ : ∃ acc, goodTo l0 k = acc := ⟨_, rfl⟩
        rw [hacc] at HNX HS HGD HGL
        clear hacc
        obtain ⟨Ag, cg, hvg⟩ := Kd.R_slice HS.out.good
        subst hvg
        cases hfb : fewB x.f2 x.f3 with
        | false =>
          rw [hfb] at HFW
          have HNX2 : Hid (goodTo l0 (k + 1) = acc) := Lib.hid (by
            rw [HNX.out]
            unfold stepB takesB
            rw [hfb]
            rfl)
          clear HNX hfb
          go_upto_region 7 with (fail)
          refine start_ (n := 26) (S := fun w' => w'.cell? (ad.add (k * 4)) = some (.int .u64 x.f0) ∧ w'.cell? ⟨(ad.add (k * 4)).block, (ad.add (k * 4)).off + 1, none⟩ = some (.int .u64 x.f1) ∧ w'.cell? ⟨(ad.add (k * 4)).block, (ad.add (k * 4)).off + 2, none⟩ = some (.string x.f2) ∧ w'.cell? ⟨(ad.add (k * 4)).block, (ad.add (k * 4)).off + 3, none⟩ = some (.slice A3 x.f3.length c3)) (ds := []) #[false, false, false, false, false, false, false, false, false, false, false, false, false, false, false, false, false, false, false, false, false, false, false, false, false, false] (by kernel_rfl) rfl rfl ⟨q0, q1, q2, q3⟩ (fun hHeld => ?_); refine with_tabW back7_tab back7_bits (fun HT_ HW_ => ?_)
          have HSD := Lib.hid (HS.out.step (below_drew (Below.refl wo.heap.size wo)))
          generalize wo.drew = wd at HSD hHeld ⊢
          refine be_ (some 24) (fl_ 26 1) HT_ 0 ?_
          refine be_ (some 25) (fl_ 26 3) HT_ 1 ?_
          refine be_ (some 26) (fl_ 26 7) HT_ 2 ?_
          refine bt4_ (some 27) (fl_ 26 15) HT_ HW_ hHeld 3 ?_
          refine one_ (i := 4) (N := some 28) (fl_ 26 31) rfl rfl (one_of HT_.out (by kernel_rfl)) (by decide) (fun K hK => ?_)
          refine goes_ Tryd.func9 (by kernel_rfl) rfl #[.agg #[.int .u64 x.f0, .int .u64 x.f1, .string x.f2, .slice A3 x.f3.length c3]] (by rfl) rfl rfl (by (try simp only [List.map_toArray, List.map_cons, List.map_nil]); first | done | rfl) ?_
          refine (HFW.out _ HSD.out.below).mono ?_
          rintro e w2 ⟨rfl, hb⟩
          refine ⟨_, rfl, ?_⟩
          have HS2 := Lib.hid (HSD.out.step hb)
          refine hK.out _ _ ⟨((hb.cell (World.block_lt_of_cell? wd _ hHeld.1)).trans hHeld.1), ((hb.cell (World.block_lt_of_cell? wd _ hHeld.2.1)).trans hHeld.2.1), ((hb.cell (World.block_lt_of_cell? wd _ hHeld.2.2.1)).trans hHeld.2.2.1), ((hb.cell (World.block_lt_of_cell? wd _ hHeld.2.2.2)).trans hHeld.2.2.2)⟩ (fun hHeld => ?_)
          clear hK K hb
          refine norm_ (a' := ?_) ?_ ?_; rotate_left; (· (show Act.put _ (some 28) _ = _; simp only [Act.put, List.setIfInBounds_toArray, List.set_cons_zero, List.set_cons_succ, i64_w, i32_w]; rfl))
          refine be_ (some 29) (fl_ 26 63) HT_ 5 ?_
          refine be_ (some 30) (fl_ 26 127) HT_ 6 ?_
          first | refine bu_ (some 31) (fl_ 26 255) HT_ 7 ?_ | refine be_ (some 31) (fl_ 26 255) HT_ 7 ?_
          first | refine bu_ (some 32) (fl_ 26 511) HT_ 8 ?_ | refine be_ (some 32) (fl_ 26 511) HT_ 8 ?_
          first | refine bu_ (some 33) (fl_ 26 1023) HT_ 9 ?_ | refine be_ (some 33) (fl_ 26 1023) HT_ 9 ?_
          first | refine bu_ (some 34) (fl_ 26 2047) HT_ 10 ?_ | refine be_ (some 34) (fl_ 26 2047) HT_ 10 ?_
          first | refine bu_ (some 35) (fl_ 26 4095) HT_ 11 ?_ | refine be_ (some 35) (fl_ 26 4095) HT_ 11 ?_
          first | refine bu_ (some 36) (fl_ 26 8191) HT_ 12 ?_ | refine be_ (some 36) (fl_ 26 8191) HT_ 12 ?_
          first | refine bu_ (some 37) (fl_ 26 16383) HT_ 13 ?_ | refine be_ (some 37) (fl_ 26 16383) HT_ 13 ?_
          first | refine bu_ (some 38) (fl_ 26 32767) HT_ 14 ?_ | refine be_ (some 38) (fl_ 26 32767) HT_ 14 ?_
          first | refine bu_ (some 40) (fl_ 26 98303) HT_ 16 ?_ | refine be_ (some 40) (fl_ 26 98303) HT_ 16 ?_
          first | refine bu_ (some 41) (fl_ 26 229375) HT_ 17 ?_ | refine be_ (some 41) (fl_ 26 229375) HT_ 17 ?_
          first | refine bu_ (some 42) (fl_ 26 491519) HT_ 18 ?_ | refine be_ (some 42) (fl_ 26 491519) HT_ 18 ?_
          first | refine bu_ (some 43) (fl_ 26 1015807) HT_ 19 ?_ | refine be_ (some 43) (fl_ 26 1015807) HT_ 19 ?_
          first | refine bu_ (some 44) (fl_ 26 2064383) HT_ 20 ?_ | refine be_ (some 44) (fl_ 26 2064383) HT_ 20 ?_
          first | refine bu_ (some 45) (fl_ 26 4161535) HT_ 21 ?_ | refine be_ (some 45) (fl_ 26 4161535) HT_ 21 ?_
          first | refine bu_ (some 39) (fl_ 26 4194303) HT_ 15 ?_ | refine bt4_ (some 39) (fl_ 26 4194303) HT_ HW_ hHeld 15 ?_
          first | refine bu_ (some 46) (fl_ 26 8388607) HT_ 22 ?_ | refine bt4_ (some 46) (fl_ 26 8388607) HT_ HW_ hHeld 22 ?_
          first | refine bu_ (some 47) (fl_ 26 16777215) HT_ 23 ?_ | refine be_ (some 47) (fl_ 26 16777215) HT_ 23 ?_
          first | refine bu_ (some 48) (fl_ 26 33554431) HT_ 24 ?_ | refine be_ (some 48) (fl_ 26 33554431) HT_ 24 ?_
          refine be_ (some 49) (fl_ 26 67108863) HT_ 25 ?_
          refine done_ (done_of HT_.out (by kernel_rfl)) ?_
          go_wp2
          go_roundw
          case rel => exact ⟨k + 1, by omega, by omega, by go_num, Lib.hid (by rw [HNX2.out]; exact HS2.out)⟩
          case measure => simp [intOf]; omega
        | true =>
          rw [hfb] at HFW
          by_cases hp : 0 < acc.length
          · have hrd := (Kd.R_reads' HS.out.good).2.2
            have hmx := hrd.2.1
            obtain ⟨ag, A4, c4, hag, ql, _⟩ := at_T26 (fixB_read hrd HS.out.below) ((acc.length : Int) - 1) (by omega) (by omega)
            subst hag
            rw [show ((acc.length : Int) - 1).toNat = acc.length - 1 by omega] at ql
            replace ql : wo.cell? (ag.add ((acc.length - 1) * 4)) = some (.int .u64 (lastN acc)) := by
              refine ql.trans ?_
              unfold rd_T26
              rw [show ((acc.length : Int) - 1).toNat = acc.length - 1 by omega]
              rfl
            have e1 : decide ((acc.length : Int) > 0) = true := decide_eq_true (by omega)
            have e2 : decide (0 < acc.length) = true := decide_eq_true hp
            have p1 : (1 : Int) ≤ (acc.length : Int) := by omega
            have p2 : 1 ≤ acc.length := hp
            have p3 : IntKind.i64.wrap ((acc.length : Int) - 1) = (acc.length : Int) - 1 := (by rw [IntKind.wrap_i64]; omega)
            have p4 : (0 : Int) ≤ (acc.length : Int) - 1 := by omega
            have p5 : (acc.length : Int) - 1 < (acc.length : Int) := by omega
            have p6 : ((acc.length : Int) - 1).toNat = acc.length - 1 := by omega
            clear hrd
            by_cases hle : x.f0 ≤ lastN acc
            · have e3 : decide (x.f0 ≤ lastN acc) = true := decide_eq_true hle
              have HNX2 : Hid (goodTo l0 (k + 1) = acc) := Lib.hid (by
                rw [HNX.out]
                unfold stepB takesB
                rw [e2, e3]
                simp)
              clear HNX hfb
              go_upto_region 7 with (fail)
              refine start_ (n := 26) (S := fun w' => w'.cell? (ad.add (k * 4)) = some (.int .u64 x.f0) ∧ w'.cell? ⟨(ad.add (k * 4)).block, (ad.add (k * 4)).off + 1, none⟩ = some (.int .u64 x.f1) ∧ w'.cell? ⟨(ad.add (k * 4)).block, (ad.add (k * 4)).off + 2, none⟩ = some (.string x.f2) ∧ w'.cell? ⟨(ad.add (k * 4)).block, (ad.add (k * 4)).off + 3, none⟩ = some (.slice A3 x.f3.length c3) ∧ w'.cell? (ag.add ((acc.length - 1) * 4)) = some (.int .u64 (lastN acc))) (ds := []) #[false, false, false, false, false, false, false, false, false, false, false, false, false, false, false, false, false, false, false, false, false, false, false, false, false, false] (by kernel_rfl) rfl rfl ⟨q0, q1, q2, q3, ql⟩ (fun hHeld => ?_); refine with_tabW back7_tab back7_bits (fun HT_ HW_ => ?_)
              have HSD := Lib.hid (HS.out.step (below_drew (Below.refl wo.heap.size wo)))
              generalize wo.drew = wd at HSD hHeld ⊢
              refine be_ (some 24) (fl_ 26 1) HT_ 0 ?_
              refine be_ (some 25) (fl_ 26 3) HT_ 1 ?_
              refine be_ (some 26) (fl_ 26 7) HT_ 2 ?_
              refine bt5_ (some 27) (fl_ 26 15) HT_ HW_ hHeld 3 ?_
              refine one_ (i := 4) (N := some 28) (fl_ 26 31) rfl rfl (one_of HT_.out (by kernel_rfl)) (by decide) (fun K hK => ?_)
              refine goes_ Tryd.func9 (by kernel_rfl) rfl #[.agg #[.int .u64 x.f0, .int .u64 x.f1, .string x.f2, .slice A3 x.f3.length c3]] (by rfl) rfl rfl (by (try simp only [List.map_toArray, List.map_cons, List.map_nil]); first | done | rfl) ?_
              refine (HFW.out _ HSD.out.below).mono ?_
              rintro e w2 ⟨rfl, hb⟩
              refine ⟨_, rfl, ?_⟩
              have HS2 := Lib.hid (HSD.out.step hb)
              refine hK.out _ _ ⟨((hb.cell (World.block_lt_of_cell? wd _ hHeld.1)).trans hHeld.1), ((hb.cell (World.block_lt_of_cell? wd _ hHeld.2.1)).trans hHeld.2.1), ((hb.cell (World.block_lt_of_cell? wd _ hHeld.2.2.1)).trans hHeld.2.2.1), ((hb.cell (World.block_lt_of_cell? wd _ hHeld.2.2.2.1)).trans hHeld.2.2.2.1), ((hb.cell (World.block_lt_of_cell? wd _ hHeld.2.2.2.2)).trans hHeld.2.2.2.2)⟩ (fun hHeld => ?_)
              clear hK K hb
              refine norm_ (a' := ?_) ?_ ?_; rotate_left; (· (show Act.put _ (some 28) _ = _; simp only [Act.put, List.setIfInBounds_toArray, List.set_cons_zero, List.set_cons_succ, i64_w, i32_w]; rfl))
              refine be_ (some 29) (fl_ 26 63) HT_ 5 ?_
              refine be_ (some 30) (fl_ 26 127) HT_ 6 ?_
              first | refine bu_ (some 31) (fl_ 26 255) HT_ 7 ?_ | refine be_ (some 31) (fl_ 26 255) HT_ 7 ?_
              first | refine bu_ (some 32) (fl_ 26 511) HT_ 8 ?_ | refine be_ (some 32) (fl_ 26 511) HT_ 8 ?_
              first | refine bu_ (some 33) (fl_ 26 1023) HT_ 9 ?_ | refine be_ (some 33) (fl_ 26 1023) HT_ 9 ?_
              first | refine bu_ (some 34) (fl_ 26 2047) HT_ 10 ?_ | refine be_ (some 34) (fl_ 26 2047) HT_ 10 ?_
              first | refine bu_ (some 35) (fl_ 26 4095) HT_ 11 ?_ | refine be_ (some 35) (fl_ 26 4095) HT_ 11 ?_
              first | refine bu_ (some 36) (fl_ 26 8191) HT_ 12 ?_ | refine be_ (some 36) (fl_ 26 8191) HT_ 12 ?_
              first | refine bu_ (some 37) (fl_ 26 16383) HT_ 13 ?_ | refine be_ (some 37) (fl_ 26 16383) HT_ 13 ?_
              first | refine bu_ (some 38) (fl_ 26 32767) HT_ 14 ?_ | refine be_ (some 38) (fl_ 26 32767) HT_ 14 ?_
              first | refine bu_ (some 40) (fl_ 26 98303) HT_ 16 ?_ | refine be_ (some 40) (fl_ 26 98303) HT_ 16 ?_
              first | refine bu_ (some 41) (fl_ 26 229375) HT_ 17 ?_ | refine be_ (some 41) (fl_ 26 229375) HT_ 17 ?_
              first | refine bu_ (some 42) (fl_ 26 491519) HT_ 18 ?_ | refine be_ (some 42) (fl_ 26 491519) HT_ 18 ?_
              first | refine bu_ (some 43) (fl_ 26 1015807) HT_ 19 ?_ | refine be_ (some 43) (fl_ 26 1015807) HT_ 19 ?_
              first | refine bu_ (some 44) (fl_ 26 2064383) HT_ 20 ?_ | refine be_ (some 44) (fl_ 26 2064383) HT_ 20 ?_
              first | refine bu_ (some 45) (fl_ 26 4161535) HT_ 21 ?_ | refine be_ (some 45) (fl_ 26 4161535) HT_ 21 ?_
              first | refine bu_ (some 39) (fl_ 26 4194303) HT_ 15 ?_ | refine bt5_ (some 39) (fl_ 26 4194303) HT_ HW_ hHeld 15 ?_
              first | refine bu_ (some 46) (fl_ 26 8388607) HT_ 22 ?_ | refine bt5_ (some 46) (fl_ 26 8388607) HT_ HW_ hHeld 22 ?_
              first | refine bu_ (some 47) (fl_ 26 16777215) HT_ 23 ?_ | refine be_ (some 47) (fl_ 26 16777215) HT_ 23 ?_
              first | refine bu_ (some 48) (fl_ 26 33554431) HT_ 24 ?_ | refine be_ (some 48) (fl_ 26 33554431) HT_ 24 ?_
              refine be_ (some 49) (fl_ 26 67108863) HT_ 25 ?_
              refine done_ (done_of HT_.out (by kernel_rfl)) ?_
              go_wp2
              go_roundw
              case rel => exact ⟨k + 1, by omega, by omega, by go_num, Lib.hid (by rw [HNX2.out]; exact HS2.out)⟩
              case measure => simp [intOf]; omega
            · have e3 : decide (x.f0 ≤ lastN acc) = false := decide_eq_false hle
              go_upto_region 7 with (fail)
              refine start_ (n := 26) (S := fun w' => w'.cell? (ad.add (k * 4)) = some (.int .u64 x.f0) ∧ w'.cell? ⟨(ad.add (k * 4)).block, (ad.add (k * 4)).off + 1, none⟩ = some (.int .u64 x.f1) ∧ w'.cell? ⟨(ad.add (k * 4)).block, (ad.add (k * 4)).off + 2, none⟩ = some (.string x.f2) ∧ w'.cell? ⟨(ad.add (k * 4)).block, (ad.add (k * 4)).off + 3, none⟩ = some (.slice A3 x.f3.length c3) ∧ w'.cell? (ag.add ((acc.length - 1) * 4)) = some (.int .u64 (lastN acc))) (ds := []) #[false, false, false, false, false, false, false, false, false, false, false, false, false, false, false, false, false, false, false, false, false, false, false, false, false, false] (by kernel_rfl) rfl rfl ⟨q0, q1, q2, q3, ql⟩ (fun hHeld => ?_); refine with_tabW back7_tab back7_bits (fun HT_ HW_ => ?_)
              have HSD := Lib.hid (HS.out.step (below_drew (Below.refl wo.heap.size wo)))
              generalize wo.drew = wd at HSD hHeld ⊢
              refine be_ (some 24) (fl_ 26 1) HT_ 0 ?_
              refine be_ (some 25) (fl_ 26 3) HT_ 1 ?_
              refine be_ (some 26) (fl_ 26 7) HT_ 2 ?_
              refine bt5_ (some 27) (fl_ 26 15) HT_ HW_ hHeld 3 ?_
              refine one_ (i := 4) (N := some 28) (fl_ 26 31) rfl rfl (one_of HT_.out (by kernel_rfl)) (by decide) (fun K hK => ?_)
              refine goes_ Tryd.func9 (by kernel_rfl) rfl #[.agg #[.int .u64 x.f0, .int .u64 x.f1, .string x.f2, .slice A3 x.f3.length c3]] (by rfl) rfl rfl (by (try simp only [List.map_toArray, List.map_cons, List.map_nil]); first | done | rfl) ?_
              refine (HFW.out _ HSD.out.below).mono ?_
              rintro e w2 ⟨rfl, hb⟩
              refine ⟨_, rfl, ?_⟩
              have HS2 := Lib.hid (HSD.out.step hb)
              refine hK.out _ _ ⟨((hb.cell (World.block_lt_of_cell? wd _ hHeld.1)).trans hHeld.1), ((hb.cell (World.block_lt_of_cell? wd _ hHeld.2.1)).trans hHeld.2.1), ((hb.cell (World.block_lt_of_cell? wd _ hHeld.2.2.1)).trans hHeld.2.2.1), ((hb.cell (World.block_lt_of_cell? wd _ hHeld.2.2.2.1)).trans hHeld.2.2.2.1), ((hb.cell (World.block_lt_of_cell? wd _ hHeld.2.2.2.2)).trans hHeld.2.2.2.2)⟩ (fun hHeld => ?_)
              clear hK K hb
              refine norm_ (a' := ?_) ?_ ?_; rotate_left; (· (show Act.put _ (some 28) _ = _; simp only [Act.put, List.setIfInBounds_toArray, List.set_cons_zero, List.set_cons_succ, i64_w, i32_w]; rfl))
              refine be_ (some 29) (fl_ 26 63) HT_ 5 ?_
              refine be_ (some 30) (fl_ 26 127) HT_ 6 ?_
              first | refine bu_ (some 31) (fl_ 26 255) HT_ 7 ?_ | refine be_ (some 31) (fl_ 26 255) HT_ 7 ?_
              first | refine bu_ (some 32) (fl_ 26 511) HT_ 8 ?_ | refine be_ (some 32) (fl_ 26 511) HT_ 8 ?_
              first | refine bu_ (some 33) (fl_ 26 1023) HT_ 9 ?_ | refine be_ (some 33) (fl_ 26 1023) HT_ 9 ?_
              first | refine bu_ (some 34) (fl_ 26 2047) HT_ 10 ?_ | refine be_ (some 34) (fl_ 26 2047) HT_ 10 ?_
              first | refine bu_ (some 35) (fl_ 26 4095) HT_ 11 ?_ | refine be_ (some 35) (fl_ 26 4095) HT_ 11 ?_
              first | refine bu_ (some 36) (fl_ 26 8191) HT_ 12 ?_ | refine be_ (some 36) (fl_ 26 8191) HT_ 12 ?_
              first | refine bu_ (some 37) (fl_ 26 16383) HT_ 13 ?_ | refine be_ (some 37) (fl_ 26 16383) HT_ 13 ?_
              first | refine bu_ (some 38) (fl_ 26 32767) HT_ 14 ?_ | refine be_ (some 38) (fl_ 26 32767) HT_ 14 ?_
              first | refine bu_ (some 40) (fl_ 26 98303) HT_ 16 ?_ | refine be_ (some 40) (fl_ 26 98303) HT_ 16 ?_
              first | refine bu_ (some 41) (fl_ 26 229375) HT_ 17 ?_ | refine be_ (some 41) (fl_ 26 229375) HT_ 17 ?_
              first | refine bu_ (some 42) (fl_ 26 491519) HT_ 18 ?_ | refine be_ (some 42) (fl_ 26 491519) HT_ 18 ?_
              first | refine bu_ (some 43) (fl_ 26 1015807) HT_ 19 ?_ | refine be_ (some 43) (fl_ 26 1015807) HT_ 19 ?_
              first | refine bu_ (some 44) (fl_ 26 2064383) HT_ 20 ?_ | refine be_ (some 44) (fl_ 26 2064383) HT_ 20 ?_
              first | refine bu_ (some 45) (fl_ 26 4161535) HT_ 21 ?_ | refine be_ (some 45) (fl_ 26 4161535) HT_ 21 ?_
              first | refine bu_ (some 39) (fl_ 26 4194303) HT_ 15 ?_ | refine bt5_ (some 39) (fl_ 26 4194303) HT_ HW_ hHeld 15 ?_
              first | refine bu_ (some 46) (fl_ 26 8388607) HT_ 22 ?_ | refine bt5_ (some 46) (fl_ 26 8388607) HT_ HW_ hHeld 22 ?_
              first | refine bu_ (some 47) (fl_ 26 16777215) HT_ 23 ?_ | refine be_ (some 47) (fl_ 26 16777215) HT_ 23 ?_
              first | refine bu_ (some 48) (fl_ 26 33554431) HT_ 24 ?_ | refine be_ (some 48) (fl_ 26 33554431) HT_ 24 ?_
              refine be_ (some 49) (fl_ 26 67108863) HT_ 25 ?_
              refine done_ (done_of HT_.out (by kernel_rfl)) ?_
              obtain ⟨k0, k1, k2, k3, _⟩ := hHeld
              obtain ⟨ys, hys⟩ : ∃ ys, pairsE x = ys := ⟨_, rfl⟩
              have HPA : Hid (∀ W, Below w.heap.size w W → Calls Tryd.prog 10 #[.agg #[.int .u64 x.f0, .int .u64 x.f1, .string x.f2, .slice A3 x.f3.length c3]] W fun e w' => ∃ v0_ : Value, e = .returned (.tuple #[v0_, .int .i64 (chkOf (checkB x.f2 x.f3))]) ∧ Kd.R k36 36 w' W.heap.size (fun _ => True) v0_ (if checkB x.f2 x.f3 = true then ys else []) ∧ Below W.heap.size W w') := Lib.hid (fun W hb => by
                rw [← hys]
                exact pairsB_calls x A3 c3 W (HG.out.below hb) (Kd.C_below HLG.out hb) HC3.out HGX.out hfb)
              have HYL : Hid (checkB x.f2 x.f3 = true → ys.length ≤ 201) := Lib.hid (fun hc => by rw [← hys, pairsE_length]; have := (ent_ok HGX.out hc).sizes.2.1; omega)
              cases hcb : checkB x.f2 x.f3 with
              | false =>
                rw [hcb] at HPA
                have HPA2 : Hid (∀ W, Below w.heap.size w W → Calls Tryd.prog 10 #[.agg #[.int .u64 x.f0, .int .u64 x.f1, .string x.f2, .slice A3 x.f3.length c3]] W fun e w' => ∃ v0_ : Value, e = .returned (.tuple #[v0_, .int .i64 120]) ∧ Kd.R k36 36 w' W.heap.size (fun _ => True) v0_ [] ∧ Below W.heap.size W w') := HPA
                have HNX2 : Hid (goodTo l0 (k + 1) = acc) := Lib.hid (by
                  rw [HNX.out]
                  unfold stepB takesB
                  rw [hcb]
                  simp)
                clear HNX hfb hcb HPA HYL
                go_wp2_with (go_at_call 10; (with_reducible refine (HPA2.out _ HS2.out.below).mono ?_); rintro e w3 ⟨v3, rfl, hR, hb⟩; obtain ⟨A5, c5, hv3⟩ := Kd.R_slice hR; replace hv3 : v3 = .slice A5 0 c5 := hv3; subst hv3; have HB3 := Lib.hid hb; clear hR hb)
                go_roundw
                case rel => exact ⟨k + 1, by omega, by omega, by go_num, Lib.hid (by rw [HNX2.out]; exact HS2.out.step HB3.out)⟩
                case measure => simp [intOf]; omega
              | true =>
                rw [hcb] at HPA
                have HPA2 : Hid (∀ W, Below w.heap.size w W → Calls Tryd.prog 10 #[.agg #[.int .u64 x.f0, .int .u64 x.f1, .string x.f2, .slice A3 x.f3.length c3]] W fun e w' => ∃ v0_ : Value, e = .returned (.tuple #[v0_, .int .i64 0]) ∧ Kd.R k36 36 w' W.heap.size (fun _ => True) v0_ ys ∧ Below W.heap.size W w') := HPA
                have HNX2 : Hid (goodTo l0 (k + 1) = acc ++ [x] ∧ pairsAll (goodTo l0 (k + 1)) = pairsAll acc ++ ys) := Lib.hid (by
                  have e : goodTo l0 (k + 1) = acc ++ [x] := by
                    rw [HNX.out]
                    unfold stepB
                    rw [if_pos (by unfold takesB; rw [hfb, hcb, e2, e3]; rfl)]
                  exact ⟨e, by rw [e, pairsAll_app, hys]⟩)
                have HYN := Lib.hid (HYL.out hcb)
                have HPN := Lib.hid (pairsAll_length acc HGD.out.ok)
                clear HNX hfb hcb HPA HYL hys
                go_wp2_with (first | (go_at_call 10; (with_reducible refine (HPA2.out _ HS2.out.below).mono ?_); rintro e w3 ⟨v3, rfl, hR, hb⟩; obtain ⟨A5, c5, hv3⟩ := Kd.R_slice hR; subst hv3; have HR5 := Lib.hid hR; have HS3 := Lib.hid (HS2.out.step hb); have m0 := (hb.cell (World.block_lt_of_cell? w2 _ k0)).trans k0; have m1 := (hb.cell (World.block_lt_of_cell? w2 _ k1)).trans k1; have m2 := (hb.cell (World.block_lt_of_cell? w2 _ k2)).trans k2; have m3 := (hb.cell (World.block_lt_of_cell? w2 _ k3)).trans k3; clear hR hb k0 k1 k2 k3) | (at_builtin; refine StopB_.out (p := _) ?_))
                refine ⟨?_⟩
                refine Kd.R_append (kFixB w) (w0 := w) (W := w3) w.heap.size rfl _ _ 34 26 _ 56 rfl Tryd.underlying34 info_e rfl (Nat.zero_lt_succ 3) (by decide) (.slice (some ag) acc.length cg) acc x [.int .u64 x.f0, .int .u64 x.f1, .string x.f2, .slice A3 x.f3.length c3] (fun _ => True) (fun _ => False) rfl rfl (entB_mk x HC3.out HLG.out) (fun _ h => h.elim) (fun _ _ => trivial) HS3.out.good HS3.out.below HS3.out.below.size (by have := HGL.out; omega) ?_
                intro v1 w9 ho1 hb1 hg1 hat1
                have HS4 := Lib.hid (HS3.out.add_good ho1 hb1 hg1)
                have HR6 := Lib.hid (Kd.R_over HR5.out HS3.out.good (fun q hq => by rcases List.mem_cons.1 hq with rfl | hq; · decide
                                                                                    · cases hq) hg1)
                clear ho1 hb1 hg1 hat1 HR5 HS3 m0 m1 m2 m3
                go_wp2_with (at_builtin; refine StopB_.out (p := _) ?_)
                refine ⟨?_⟩
                refine Kd.R_append_rows k36 (Rr := (k36).K w9) (w0 := w) (W := w9) w.heap.size rfl _ _ 28 36 _ 32 rfl Tryd.underlying28 info_p rfl (Nat.zero_lt_succ 1) (by decide) u5 (pairsAll acc) ys A5 ys.length c5 (fun _ => True) (fun _ => False) rfl rfl HS4.out.pairs (Kd.R_reads' HR6.out).2.2 (fun _ _ h => h) (fun _ h => h.elim) (fun _ _ => trivial) HS4.out.below HS4.out.below.size (by have := HPN.out; have := HYN.out; have := HGL.out; omega) ?_
                intro v2 w10 ho2 hb2 hg2 hat2
                have HS5 := Lib.hid (HS4.out.add_pairs ho2 hb2 hg2)
                clear ho2 hb2 hg2 hat2
                go_wp2
                go_roundw
                case rel => exact ⟨k + 1, by omega, by omega, by go_num, Lib.hid (by rw [HNX2.out.2, HNX2.out.1]; exact HS5.out)⟩
                case measure => simp [intOf]; omega
          · have e1 : decide ((acc.length : Int) > 0) = false := decide_eq_false (by omega)
            have e2 : decide (0 < acc.length) = false := decide_eq_false hp
            go_upto_region 7 with (fail)
            refine start_ (n := 26) (S := fun w' => w'.cell? (ad.add (k * 4)) = some (.int .u64 x.f0) ∧ w'.cell? ⟨(ad.add (k * 4)).block, (ad.add (k * 4)).off + 1, none⟩ = some (.int .u64 x.f1) ∧ w'.cell? ⟨(ad.add (k * 4)).block, (ad.add (k * 4)).off + 2, none⟩ = some (.string x.f2) ∧ w'.cell? ⟨(ad.add (k * 4)).block, (ad.add (k * 4)).off + 3, none⟩ = some (.slice A3 x.f3.length c3)) (ds := []) #[false, false, false, false, false, false, false, false, false, false, false, false, false, false, false, false, false, false, false, false, false, false, false, false, false, false] (by kernel_rfl) rfl rfl ⟨q0, q1, q2, q3⟩ (fun hHeld => ?_); refine with_tabW back7_tab back7_bits (fun HT_ HW_ => ?_)
            have HSD := Lib.hid (HS.out.step (below_drew (Below.refl wo.heap.size wo)))
            generalize wo.drew = wd at HSD hHeld ⊢
            refine be_ (some 24) (fl_ 26 1) HT_ 0 ?_
            refine be_ (some 25) (fl_ 26 3) HT_ 1 ?_
            refine be_ (some 26) (fl_ 26 7) HT_ 2 ?_
            refine bt4_ (some 27) (fl_ 26 15) HT_ HW_ hHeld 3 ?_
            refine one_ (i := 4) (N := some 28) (fl_ 26 31) rfl rfl (one_of HT_.out (by kernel_rfl)) (by decide) (fun K hK => ?_)
            refine goes_ Tryd.func9 (by kernel_rfl) rfl #[.agg #[.int .u64 x.f0, .int .u64 x.f1, .string x.f2, .slice A3 x.f3.length c3]] (by rfl) rfl rfl (by (try simp only [List.map_toArray, List.map_cons, List.map_nil]); first | done | rfl) ?_
            refine (HFW.out _ HSD.out.below).mono ?_
            rintro e w2 ⟨rfl, hb⟩
            refine ⟨_, rfl, ?_⟩
            have HS2 := Lib.hid (HSD.out.step hb)
            refine hK.out _ _ ⟨((hb.cell (World.block_lt_of_cell? wd _ hHeld.1)).trans hHeld.1), ((hb.cell (World.block_lt_of_cell? wd _ hHeld.2.1)).trans hHeld.2.1), ((hb.cell (World.block_lt_of_cell? wd _ hHeld.2.2.1)).trans hHeld.2.2.1), ((hb.cell (World.block_lt_of_cell? wd _ hHeld.2.2.2)).trans hHeld.2.2.2)⟩ (fun hHeld => ?_)
            clear hK K hb
            refine norm_ (a' := ?_) ?_ ?_; rotate_left; (· (show Act.put _ (some 28) _ = _; simp only [Act.put, List.setIfInBounds_toArray, List.set_cons_zero, List.set_cons_succ, i64_w, i32_w]; rfl))
            refine be_ (some 29) (fl_ 26 63) HT_ 5 ?_
            refine be_ (some 30) (fl_ 26 127) HT_ 6 ?_
            first | refine bu_ (some 31) (fl_ 26 255) HT_ 7 ?_ | refine be_ (some 31) (fl_ 26 255) HT_ 7 ?_
            first | refine bu_ (some 32) (fl_ 26 511) HT_ 8 ?_ | refine be_ (some 32) (fl_ 26 511) HT_ 8 ?_
            first | refine bu_ (some 33) (fl_ 26 1023) HT_ 9 ?_ | refine be_ (some 33) (fl_ 26 1023) HT_ 9 ?_
            first | refine bu_ (some 34) (fl_ 26 2047) HT_ 10 ?_ | refine be_ (some 34) (fl_ 26 2047) HT_ 10 ?_
            first | refine bu_ (some 35) (fl_ 26 4095) HT_ 11 ?_ | refine be_ (some 35) (fl_ 26 4095) HT_ 11 ?_
            first | refine bu_ (some 36) (fl_ 26 8191) HT_ 12 ?_ | refine be_ (some 36) (fl_ 26 8191) HT_ 12 ?_
            first | refine bu_ (some 37) (fl_ 26 16383) HT_ 13 ?_ | refine be_ (some 37) (fl_ 26 16383) HT_ 13 ?_
            first | refine bu_ (some 38) (fl_ 26 32767) HT_ 14 ?_ | refine be_ (some 38) (fl_ 26 32767) HT_ 14 ?_
            first | refine bu_ (some 40) (fl_ 26 98303) HT_ 16 ?_ | refine be_ (some 40) (fl_ 26 98303) HT_ 16 ?_
            first | refine bu_ (some 41) (fl_ 26 229375) HT_ 17 ?_ | refine be_ (some 41) (fl_ 26 229375) HT_ 17 ?_
            first | refine bu_ (some 42) (fl_ 26 491519) HT_ 18 ?_ | refine be_ (some 42) (fl_ 26 491519) HT_ 18 ?_
            first | refine bu_ (some 43) (fl_ 26 1015807) HT_ 19 ?_ | refine be_ (some 43) (fl_ 26 1015807) HT_ 19 ?_
            first | refine bu_ (some 44) (fl_ 26 2064383) HT_ 20 ?_ | refine be_ (some 44) (fl_ 26 2064383) HT_ 20 ?_
            first | refine bu_ (some 45) (fl_ 26 4161535) HT_ 21 ?_ | refine be_ (some 45) (fl_ 26 4161535) HT_ 21 ?_
            first | refine bu_ (some 39) (fl_ 26 4194303) HT_ 15 ?_ | refine bt4_ (some 39) (fl_ 26 4194303) HT_ HW_ hHeld 15 ?_
            first | refine bu_ (some 46) (fl_ 26 8388607) HT_ 22 ?_ | refine bt4_ (some 46) (fl_ 26 8388607) HT_ HW_ hHeld 22 ?_
            first | refine bu_ (some 47) (fl_ 26 16777215) HT_ 23 ?_ | refine be_ (some 47) (fl_ 26 16777215) HT_ 23 ?_
            first | refine bu_ (some 48) (fl_ 26 33554431) HT_ 24 ?_ | refine be_ (some 48) (fl_ 26 33554431) HT_ 24 ?_
            refine be_ (some 49) (fl_ 26 67108863) HT_ 25 ?_
            refine done_ (done_of HT_.out (by kernel_rfl)) ?_
            obtain ⟨k0, k1, k2, k3⟩ := hHeld
            obtain ⟨ys, hys⟩ : ∃ ys, pairsE x = ys := ⟨_, rfl⟩
            have HPA : Hid (∀ W, Below w.heap.size w W → Calls Tryd.prog 10 #[.agg #[.int .u64 x.f0, .int .u64 x.f1, .string x.f2, .slice A3 x.f3.length c3]] W fun e w' => ∃ v0_ : Value, e = .returned (.tuple #[v0_, .int .i64 (chkOf (checkB x.f2 x.f3))]) ∧ Kd.R k36 36 w' W.heap.size (fun _ => True) v0_ (if checkB x.f2 x.f3 = true then ys else []) ∧ Below W.heap.size W w') := Lib.hid (fun W hb => by
              rw [← hys]
              exact pairsB_calls x A3 c3 W (HG.out.below hb) (Kd.C_below HLG.out hb) HC3.out HGX.out hfb)
            have HYL : Hid (checkB x.f2 x.f3 = true → ys.length ≤ 201) := Lib.hid (fun hc => by rw [← hys, pairsE_length]; have := (ent_ok HGX.out hc).sizes.2.1; omega)
            cases hcb : checkB x.f2 x.f3 with
            | false =>
              rw [hcb] at HPA
              have HPA2 : Hid (∀ W, Below w.heap.size w W → Calls Tryd.prog 10 #[.agg #[.int .u64 x.f0, .int .u64 x.f1, .string x.f2, .slice A3 x.f3.length c3]] W fun e w' => ∃ v0_ : Value, e = .returned (.tuple #[v0_, .int .i64 120]) ∧ Kd.R k36 36 w' W.heap.size (fun _ => True) v0_ [] ∧ Below W.heap.size W w') := HPA
              have HNX2 : Hid (goodTo l0 (k + 1) = acc) := Lib.hid (by
                rw [HNX.out]
                unfold stepB takesB
                rw [hcb]
                simp)
              clear HNX hfb hcb HPA HYL
              go_wp2_with (go_at_call 10; (with_reducible refine (HPA2.out _ HS2.out.below).mono ?_); rintro e w3 ⟨v3, rfl, hR, hb⟩; obtain ⟨A5, c5, hv3⟩ := Kd.R_slice hR; replace hv3 : v3 = .slice A5 0 c5 := hv3; subst hv3; have HB3 := Lib.hid hb; clear hR hb)
              go_roundw
              case rel => exact ⟨k + 1, by omega, by omega, by go_num, Lib.hid (by rw [HNX2.out]; exact HS2.out.step HB3.out)⟩
              case measure => simp [intOf]; omega
            | true =>
              rw [hcb] at HPA
              have HPA2 : Hid (∀ W, Below w.heap.size w W → Calls Tryd.prog 10 #[.agg #[.int .u64 x.f0, .int .u64 x.f1, .string x.f2, .slice A3 x.f3.length c3]] W fun e w' => ∃ v0_ : Value, e = .returned (.tuple #[v0_, .int .i64 0]) ∧ Kd.R k36 36 w' W.heap.size (fun _ => True) v0_ ys ∧ Below W.heap.size W w') := HPA
              have HNX2 : Hid (goodTo l0 (k + 1) = acc ++ [x] ∧ pairsAll (goodTo l0 (k + 1)) = pairsAll acc ++ ys) := Lib.hid (by
                have e : goodTo l0 (k + 1) = acc ++ [x] := by
                  rw [HNX.out]
                  unfold stepB
                  rw [if_pos (by unfold takesB; rw [hfb, hcb, e2]; rfl)]
                exact ⟨e, by rw [e, pairsAll_app, hys]⟩)
              have HYN := Lib.hid (HYL.out hcb)
              have HPN := Lib.hid (pairsAll_length acc HGD.out.ok)
              clear HNX hfb hcb HPA HYL hys
              go_wp2_with (first | (go_at_call 10; (with_reducible refine (HPA2.out _ HS2.out.below).mono ?_); rintro e w3 ⟨v3, rfl, hR, hb⟩; obtain ⟨A5, c5, hv3⟩ := Kd.R_slice hR; subst hv3; have HR5 := Lib.hid hR; have HS3 := Lib.hid (HS2.out.step hb); have m0 := (hb.cell (World.block_lt_of_cell? w2 _ k0)).trans k0; have m1 := (hb.cell (World.block_lt_of_cell? w2 _ k1)).trans k1; have m2 := (hb.cell (World.block_lt_of_cell? w2 _ k2)).trans k2; have m3 := (hb.cell (World.block_lt_of_cell? w2 _ k3)).trans k3; clear hR hb k0 k1 k2 k3) | (at_builtin; refine StopB_.out (p := _) ?_))
              refine ⟨?_⟩
              refine Kd.R_append (kFixB w) (w0 := w) (W := w3) w.heap.size rfl _ _ 34 26 _ 56 rfl Tryd.underlying34 info_e rfl (Nat.zero_lt_succ 3) (by decide) (.slice Ag acc.length cg) acc x [.int .u64 x.f0, .int .u64 x.f1, .string x.f2, .slice A3 x.f3.length c3] (fun _ => True) (fun _ => False) rfl rfl (entB_mk x HC3.out HLG.out) (fun _ h => h.elim) (fun _ _ => trivial) HS3.out.good HS3.out.below HS3.out.below.size (by have := HGL.out; omega) ?_
              intro v1 w9 ho1 hb1 hg1 hat1
              have HS4 := Lib.hid (HS3.out.add_good ho1 hb1 hg1)
              have HR6 := Lib.hid (Kd.R_over HR5.out HS3.out.good (fun q hq => by rcases List.mem_cons.1 hq with rfl | hq; · decide
                                                                                  · cases hq) hg1)
              clear ho1 hb1 hg1 hat1 HR5 HS3 m0 m1 m2 m3
              go_wp2_with (at_builtin; refine StopB_.out (p := _) ?_)
              refine ⟨?_⟩
              refine Kd.R_append_rows k36 (Rr := (k36).K w9) (w0 := w) (W := w9) w.heap.size rfl _ _ 28 36 _ 32 rfl Tryd.underlying28 info_p rfl (Nat.zero_lt_succ 1) (by decide) u5 (pairsAll acc) ys A5 ys.length c5 (fun _ => True) (fun _ => False) rfl rfl HS4.out.pairs (Kd.R_reads' HR6.out).2.2 (fun _ _ h => h) (fun _ h => h.elim) (fun _ _ => trivial) HS4.out.below HS4.out.below.size (by have := HPN.out; have := HYN.out; have := HGL.out; omega) ?_
              intro v2 w10 ho2 hb2 hg2 hat2
              have HS5 := Lib.hid (HS4.out.add_pairs ho2 hb2 hg2)
              clear ho2 hb2 hg2 hat2
              go_wp2
              go_roundw
              case rel => exact ⟨k + 1, by omega, by omega, by go_num, Lib.hid (by rw [HNX2.out.2, HNX2.out.1]; exact HS5.out)⟩
              case measure => simp [intOf]; omega
      · have hn3 : decide ((k : Int) < 10) = false := decide_eq_false (by omega)
        have hn4 : decide (k < 10) = false := decide_eq_false h10
        go_wp2
        have HFK := HFT.out k hk
        obtain ⟨gd, hgd⟩ : ∃ gd, goodTo l0 k = gd := ⟨_, rfl⟩
        rw [hgd] at HS HFK
        have HGD := Lib.hid HFK.1; have HGL := Lib.hid HFK.2
        clear HFK hgd
        obtain ⟨Ag, cg, hvg⟩ := Kd.R_slice HS.out.good
        subst hvg
        obtain ⟨Ap, cp, hvp⟩ := Kd.R_slice HS.out.pairs
        subst hvp
        have HPL := Lib.hid (pairsAll_length gd HGD.out.ok)
        have HPG := Lib.hid (pairsAll_more gd)
        have HUP := Lib.hid (pairs_up gd HGD.out.ok HGD.out.up)
        have HSH := Lib.hid (pairs_short HGD.out.ok)
        have HRE := Lib.hid (read_ev gd [] ((pairsAll gd).length + 1) (by have := HPG.out; omega) HGD.out.ok (by have := HPL.out; have := HGL.out; omega) (by have := HGL.out; simp; omega) HGD.out.up (fun o ho => by cases ho))
        obtain ⟨ps, hps⟩ : ∃ ps, pairsAll gd = ps := ⟨_, rfl⟩
        rw [hps] at HS HPL HPG HUP HSH HRE ⊢
        clear hps
        go_loopw [9] (fun i wr => ∃ m : Nat, m ≤ ps.length ∧ i = .int .i64 m ∧ Hid (BS w gd ps (.slice Ag gd.length cg) (.slice Ap ps.length cp) wr)) (fun i _ => ps.length - (intOf i).toNat)
        case atStart => exact ⟨0, Nat.zero_le _, rfl, HS⟩
        case round =>
          clear HS
          obtain ⟨m, hm, rfl, HS⟩ := hrel
          obtain ⟨wm, rfl⟩ : ∃ wm : World, wm = wr := ⟨_, rfl⟩
          have hpl : ps.length ≤ 201 * gd.length := HPL.out
          have hgl : gd.length ≤ k := HGL.out
          by_cases hml : m < ps.length
          · have m3 : decide ((m : Int) < (ps.length : Int)) = true := decide_eq_true (by omega)
            have m4 : decide (m < ps.length) = true := decide_eq_true hml
            have hC := (Kd.R_reads' HS.out.pairs).2.2
            obtain ⟨ap, hap, r0, r1⟩ := at_T36 hC (m : Int) (by omega) (by omega)
            subst hap
            obtain ⟨p, hp⟩ : ∃ p, ps[m] = p := ⟨_, rfl⟩
            replace r0 : wm.cell? (ap.add (m * 2)) = some (.string p.f0) := by
              rw [← hp, ← rd_pair ps m hml]
              exact r0
            replace r1 : wm.cell? ⟨(ap.add (m * 2)).block, (ap.add (m * 2)).off + 1, none⟩ = some (.string p.f1) := by
              rw [← hp, ← rd_pair ps m hml]
              exact r1
            have hsz := HSH.out p (hp ▸ List.getElem_mem hml)
            have d1 : decide ((p.f0.size : Int) > 48) = false := decide_eq_false (by omega)
            have d2 : decide (48 < p.f0.size) = false := decide_eq_false (by omega)
            have d3 : decide ((p.f1.size : Int) > 100) = false := decide_eq_false (by omega)
            have d4 : decide (100 < p.f1.size) = false := decide_eq_false (by omega)
            clear hsz
            by_cases hm0 : 0 < m
            · have e1 : decide ((m : Int) > 0) = true := decide_eq_true (by omega)
              have e2 : decide (0 < m) = true := decide_eq_true hm0
              obtain ⟨ap2, hap2, s0, _⟩ := at_T36 hC ((m : Int) - 1) (by omega) (by omega)
              obtain rfl : ap = ap2 := by injection hap2
              obtain ⟨pp, hpp⟩ : ∃ pp, ps[m - 1] = pp := ⟨_, rfl⟩
              have hmm : ((m : Int) - 1) = ((m - 1 : Nat) : Int) := by omega
              have s0a : wm.cell? (ap.add ((m - 1) * 2)) = some (.string pp.f0) := by
                rw [← hpp, ← rd_pair ps (m - 1) (by omega)]
                rw [hmm] at s0
                exact s0
              have hbf : Op.bytesLess pp.f0.toList p.f0.toList = true := by
                rw [← hpp, ← hp]
                exact List.pairwise_iff_getElem.1 HUP.out (m - 1) m (by omega) hml (by omega)
              have e4 := less_asym _ _ hbf
              have e4a : Op.bytesLess p.f0.toList pp.f0.toList = false := (Bool.or_eq_false_iff.1 e4).1
              have e4b : (p.f0.toList == pp.f0.toList) = false := (Bool.or_eq_false_iff.1 e4).2
              have p1 : (1 : Int) ≤ (m : Int) := by omega
              have p2 : 1 ≤ m := hm0
              have p3 : IntKind.i64.wrap ((m : Int) - 1) = (m : Int) - 1 := (by rw [IntKind.wrap_i64]; omega)
              have p4 : (0 : Int) ≤ (m : Int) - 1 := by omega
              have p5 : (m : Int) - 1 < (ps.length : Int) := by omega
              have p6 : ((m : Int) - 1).toNat = m - 1 := by omega
              clear hC hpp hp s0 hbf
              go_upto_region 17 with (fail)
              go_quiet (fail)
              go_wp2
              go_roundw
              case rel => exact ⟨m + 1, by omega, by go_num, Lib.hid (HS.out.step (pw_below_drewN (Below.refl _ _) _))⟩
              case measure => simp [intOf]; omega
            · have e1 : decide ((m : Int) > 0) = false := decide_eq_false (by omega)
              have e2 : decide (0 < m) = false := decide_eq_false hm0
              clear hC hp
              go_upto_region 17 with (fail)
              go_quiet (fail)
              go_wp2
              go_roundw
              case rel => exact ⟨m + 1, by omega, by go_num, Lib.hid (HS.out.step (pw_below_drewN (Below.refl _ _) _))⟩
              case measure => simp [intOf]; omega
          · have m3 : decide ((m : Int) < (ps.length : Int)) = false := decide_eq_false (by omega)
            have m4 : decide (m < ps.length) = false := decide_eq_false hml
            obtain rfl : m = ps.length := by omega
            have HRD : Hid (Calls Tryd.prog 15 #[.slice Ap ps.length cp] wm fun e w' => ∃ v0_ : Value, e = .returned (.tuple #[v0_, .int .i64 0]) ∧ Kd.R k26 26 w' wm.heap.size (fun _ => True) v0_ gd ∧ Below wm.heap.size wm w') := Lib.hid (by
              obtain ⟨kk, hkk⟩ := HRE.out.rounds
              have hr := Kd.R_reads' HS.out.pairs
              exact journal_Read.calls kk Ap cp ps gd 0 wm HS.out.glob hr.2.2 hr.2.1 hkk)
            have HSM : Hid (∀ (W : World) (Ar : Option Addr) (cr : Nat), BS w gd ps (.slice Ag gd.length cg) (.slice Ap ps.length cp) W → Kd.C k26 W Ar gd.length gd → gd.length ≤ cr → Calls Tryd.prog 16 #[.slice Ar gd.length cr, .slice Ag gd.length cg] W fun e w' => e = .returned (.bool true) ∧ Below W.heap.size W w') := Lib.hid (fun W Ar cr h hC hc => by
              obtain ⟨kk, hkk⟩ := (same_all gd (by omega) (fun x hx => by have := (HGD.out.ok x hx).sizes.2.1; omega)).rounds
              have hr := Kd.R_reads' h.good
              exact cambistref12_SameAll.calls kk Ar cr gd Ag cg gd true W h.glob hC hc (fixB_read hr.2.2 h.below) hr.2.1 hkk)
            go_wp2_with (first | (go_at_call 16; (with_reducible refine (HSM.out _ _ _ HS3.out HCR.out HCC.out).mono ?_); rintro e w4 ⟨rfl, hb⟩; have HB4 := Lib.hid hb; clear hb) | (go_at_call 15; (with_reducible refine (HRD.out).mono ?_); rintro e w3 ⟨v3, rfl, hR, hb⟩; obtain ⟨A5, c5, hv3, hc5, hC5⟩ := Kd.R_reads hR; subst hv3; have HCR := Lib.hid hC5; have HCC := Lib.hid hc5; have HS3 := Lib.hid (HS.out.step hb); clear hR hb hc5 hC5))
            go_ret
            exact ⟨rfl, below_step HS3.out.below HB4.out⟩
    · have hn1 : decide ((k : Int) < (l0.length : Int)) = false := decide_eq_false (by omega)
      have hn2 : decide (k < l0.length) = false := decide_eq_false hlt
      go_wp2
      have HFK := HFT.out k hk
      obtain ⟨gd, hgd⟩ : ∃ gd, goodTo l0 k = gd := ⟨_, rfl⟩
      rw [hgd] at HS HFK
      have HGD := Lib.hid HFK.1; have HGL := Lib.hid HFK.2
      clear HFK hgd
      obtain ⟨Ag, cg, hvg⟩ := Kd.R_slice HS.out.good
      subst hvg
      obtain ⟨Ap, cp, hvp⟩ := Kd.R_slice HS.out.pairs
      subst hvp
      have HPL := Lib.hid (pairsAll_length gd HGD.out.ok)
      have HPG := Lib.hid (pairsAll_more gd)
      have HUP := Lib.hid (pairs_up gd HGD.out.ok HGD.out.up)
      have HSH := Lib.hid (pairs_short HGD.out.ok)
      have HRE := Lib.hid (read_ev gd [] ((pairsAll gd).length + 1) (by have := HPG.out; omega) HGD.out.ok (by have := HPL.out; have := HGL.out; omega) (by have := HGL.out; simp; omega) HGD.out.up (fun o ho => by cases ho))
      obtain ⟨ps, hps⟩ : ∃ ps, pairsAll gd = ps := ⟨_, rfl⟩
      rw [hps] at HS HPL HPG HUP HSH HRE ⊢
      clear hps
      go_loopw [9] (fun i wr => ∃ m : Nat, m ≤ ps.length ∧ i = .int .i64 m ∧ Hid (BS w gd ps (.slice Ag gd.length cg) (.slice Ap ps.length cp) wr)) (fun i _ => ps.length - (intOf i).toNat)
      case atStart => exact ⟨0, Nat.zero_le _, rfl, HS⟩
      case round =>
        clear HS
        obtain ⟨m, hm, rfl, HS⟩ := hrel
        obtain ⟨wm, rfl⟩ : ∃ wm : World, wm = wr := ⟨_, rfl⟩
        have hpl : ps.length ≤ 201 * gd.length := HPL.out
        have hgl : gd.length ≤ k := HGL.out
        by_cases hml : m < ps.length
        · have m3 : decide ((m : Int) < (ps.length : Int)) = true := decide_eq_true (by omega)
          have m4 : decide (m < ps.length) = true := decide_eq_true hml
          have hC := (Kd.R_reads' HS.out.pairs).2.2
          obtain ⟨ap, hap, r0, r1⟩ := at_T36 hC (m : Int) (by omega) (by omega)
          subst hap
          obtain ⟨p, hp⟩ : ∃ p, ps[m] = p := ⟨_, rfl⟩
          replace r0 : wm.cell? (ap.add (m * 2)) = some (.string p.f0) := by
            rw [← hp, ← rd_pair ps m hml]
            exact r0
          replace r1 : wm.cell? ⟨(ap.add (m * 2)).block, (ap.add (m * 2)).off + 1, none⟩ = some (.string p.f1) := by
            rw [← hp, ← rd_pair ps m hml]
            exact r1
          have hsz := HSH.out p (hp ▸ List.getElem_mem hml)
          have d1 : decide ((p.f0.size : Int) > 48) = false := decide_eq_false (by omega)
          have d2 : decide (48 < p.f0.size) = false := decide_eq_false (by omega)
          have d3 : decide ((p.f1.size : Int) > 100) = false := decide_eq_false (by omega)
          have d4 : decide (100 < p.f1.size) = false := decide_eq_false (by omega)
          clear hsz
          by_cases hm0 : 0 < m
          · have e1 : decide ((m : Int) > 0) = true := decide_eq_true (by omega)
            have e2 : decide (0 < m) = true := decide_eq_true hm0
            obtain ⟨ap2, hap2, s0, _⟩ := at_T36 hC ((m : Int) - 1) (by omega) (by omega)
            obtain rfl : ap = ap2 := by injection hap2
            obtain ⟨pp, hpp⟩ : ∃ pp, ps[m - 1] = pp := ⟨_, rfl⟩
            have hmm : ((m : Int) - 1) = ((m - 1 : Nat) : Int) := by omega
            have s0a : wm.cell? (ap.add ((m - 1) * 2)) = some (.string pp.f0) := by
              rw [← hpp, ← rd_pair ps (m - 1) (by omega)]
              rw [hmm] at s0
              exact s0
            have hbf : Op.bytesLess pp.f0.toList p.f0.toList = true := by
              rw [← hpp, ← hp]
              exact List.pairwise_iff_getElem.1 HUP.out (m - 1) m (by omega) hml (by omega)
            have e4 := less_asym _ _ hbf
            have e4a : Op.bytesLess p.f0.toList pp.f0.toList = false := (Bool.or_eq_false_iff.1 e4).1
            have e4b : (p.f0.toList == pp.f0.toList) = false := (Bool.or_eq_false_iff.1 e4).2
            have p1 : (1 : Int) ≤ (m : Int) := by omega
            have p2 : 1 ≤ m := hm0
            have p3 : IntKind.i64.wrap ((m : Int) - 1) = (m : Int) - 1 := (by rw [IntKind.wrap_i64]; omega)
            have p4 : (0 : Int) ≤ (m : Int) - 1 := by omega
            have p5 : (m : Int) - 1 < (ps.length : Int) := by omega
            have p6 : ((m : Int) - 1).toNat = m - 1 := by omega
            clear hC hpp hp s0 hbf
            go_upto_region 17 with (fail)
            go_quiet (fail)
            go_wp2
            go_roundw
            case rel => exact ⟨m + 1, by omega, by go_num, Lib.hid (HS.out.step (pw_below_drewN (Below.refl _ _) _))⟩
            case measure => simp [intOf]; omega
          · have e1 : decide ((m : Int) > 0) = false := decide_eq_false (by omega)
            have e2 : decide (0 < m) = false := decide_eq_false hm0
            clear hC hp
            go_upto_region 17 with (fail)
            go_quiet (fail)
            go_wp2
            go_roundw
            case rel => exact ⟨m + 1, by omega, by go_num, Lib.hid (HS.out.step (pw_below_drewN (Below.refl _ _) _))⟩
            case measure => simp [intOf]; omega
        · have m3 : decide ((m : Int) < (ps.length : Int)) = false := decide_eq_false (by omega)
          have m4 : decide (m < ps.length) = false := decide_eq_false hml
          obtain rfl : m = ps.length := by omega
          have HRD : Hid (Calls Tryd.prog 15 #[.slice Ap ps.length cp] wm fun e w' => ∃ v0_ : Value, e = .returned (.tuple #[v0_, .int .i64 0]) ∧ Kd.R k26 26 w' wm.heap.size (fun _ => True) v0_ gd ∧ Below wm.heap.size wm w') := Lib.hid (by
            obtain ⟨kk, hkk⟩ := HRE.out.rounds
            have hr := Kd.R_reads' HS.out.pairs
            exact journal_Read.calls kk Ap cp ps gd 0 wm HS.out.glob hr.2.2 hr.2.1 hkk)
          have HSM : Hid (∀ (W : World) (Ar : Option Addr) (cr : Nat), BS w gd ps (.slice Ag gd.length cg) (.slice Ap ps.length cp) W → Kd.C k26 W Ar gd.length gd → gd.length ≤ cr → Calls Tryd.prog 16 #[.slice Ar gd.length cr, .slice Ag gd.length cg] W fun e w' => e = .returned (.bool true) ∧ Below W.heap.size W w') := Lib.hid (fun W Ar cr h hC hc => by
            obtain ⟨kk, hkk⟩ := (same_all gd (by omega) (fun x hx => by have := (HGD.out.ok x hx).sizes.2.1; omega)).rounds
            have hr := Kd.R_reads' h.good
            exact cambistref12_SameAll.calls kk Ar cr gd Ag cg gd true W h.glob hC hc (fixB_read hr.2.2 h.below) hr.2.1 hkk)
          go_wp2_with (first | (go_at_call 16; (with_reducible refine (HSM.out _ _ _ HS3.out HCR.out HCC.out).mono ?_); rintro e w4 ⟨rfl, hb⟩; have HB4 := Lib.hid hb; clear hb) | (go_at_call 15; (with_reducible refine (HRD.out).mono ?_); rintro e w3 ⟨v3, rfl, hR, hb⟩; obtain ⟨A5, c5, hv3, hc5, hC5⟩ := Kd.R_reads hR; subst hv3; have HCR := Lib.hid hC5; have HCC := Lib.hid hc5; have HS3 := Lib.hid (HS.out.step hb); clear hR hb hc5 hC5))
          go_ret
          exact ⟨rfl, below_step HS3.out.below HB4.out⟩
end Go.Proofs.YtjlifcbddednaaaDoor.E
