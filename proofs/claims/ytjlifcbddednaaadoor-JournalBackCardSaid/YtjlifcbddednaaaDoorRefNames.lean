/- The document's answers of layer 2 to which texts are names. -/
import Derived.Test.YtjlifcbddednaaaDoorNames
import Derived.Test.YtjlifcbddednaaaDoorPx6
import Derived.Test.YtjlifcbddednaaaDoorPx7
import Derived.Test.YtjlifcbddednaaaDoorPx7
import Derived.Test.YtjlifcbddednaaaDoorPx7
import Derived.Test.YtjlifcbddednaaaDoorPx7
namespace Go.Proofs.YtjlifcbddednaaaDoor.E
open Go.RowKit Go.Proofs.YtjlifcbddednaaaDoor.P Go.Proofs.YtjlifcbddednaaaDoorW.PrintWords Go.Proofs.YtjlifcbddednaaaDoorW.PrintLast

theorem within_some (c : UInt8) (a b : Nat) : cambistref02_within.f (c.toNat : Int) (a : Int) (b : Int) = some (decide (a ≤ c.toNat) && decide (c.toNat ≤ b)) := by
  unfold cambistref02_within.f
  by_cases h : a ≤ c.toNat
  · rw [if_pos (by omega), decide_eq_true h, Bool.true_and]
    congr 1
    rw [Bool.eq_iff_iff]; simp
  · rw [if_neg (by omega), decide_eq_false h, Bool.false_and]
theorem within_low (c : UInt8) : cambistref02_within.f (c.toNat : Int) 97 122 = some (isLow c) := within_some c 97 122
theorem within_up (c : UInt8) : cambistref02_within.f (c.toNat : Int) 65 90 = some (isUp c) := within_some c 65 90
theorem within_dig (c : UInt8) : cambistref02_within.f (c.toNat : Int) 48 57 = some (isDig c) := within_some c 48 57
theorem drop_at {l : List UInt8} {i : Nat} (h : i < l.length) : l.drop i = l[i] :: l.drop (i + 1) := List.drop_eq_getElem_cons h

theorem asset_loop (s : ByteArray) (hs : s.size ≤ 140737488351232) : ∀ (m i : Nat), s.size - i = m → i ≤ s.size →
    Ev (fun k => cambistref02_Asset.l0 k s (i : Int)) ((s.data.toList.drop i).all isUp && (decide (1 ≤ s.size) && decide ((s.size : Int) ≤ 6))) := by
  intro m
  induction m with
  | zero =>
    intro i hm hi
    refine ev_succ ?_
    simp only [cambistref02_Asset.l0]
    refine ev_neg (by omega) ?_
    rw [List.drop_of_length_le (by rw [size_len]; omega)]
    by_cases h1 : 1 ≤ s.size
    · refine ev_pos (by omega) (ev_some ?_)
      rw [decide_eq_true h1]; rfl
    · refine ev_neg (by omega) (ev_some ?_)
      rw [decide_eq_false h1]; rfl
  | succ m ih =>
    intro i hm hi
    have hlt : i < s.data.toList.length := by rw [size_len]; omega
    refine ev_succ ?_
    simp only [cambistref02_Asset.l0]
    refine ev_pos (by omega) (ev_pos (by omega) ?_)
    rw [bt_get s i hlt, drop_at hlt, List.all_cons]
    refine ev_opt (within_up _) ?_
    cases isUp s.data.toList[i] with
    | true =>
      refine ev_pos rfl ?_
      rw [wrap_next hi hs]
      exact ih (i + 1) (by omega) (by omega)
    | false => exact ev_neg (by decide) (ev_some rfl)
theorem ref_asset (s : ByteArray) (hs : s.size ≤ 140737488351232) : Ev (fun k => cambistref02_Asset.f k s) (isPart isUp 6 s) := asset_loop s hs s.size 0 (by omega) (by omega)

theorem part_loop (s : ByteArray) (most : Int) (hs : s.size ≤ 140737488351232) : ∀ (m i : Nat), s.size - i = m → i ≤ s.size →
    Ev (fun k => cambistref02_part.l0 k s most (i : Int)) ((s.data.toList.drop i).all isSign && (decide (1 ≤ s.size) && decide ((s.size : Int) ≤ most))) := by
  intro m
  induction m with
  | zero =>
    intro i hm hi
    refine ev_succ ?_
    simp only [cambistref02_part.l0]
    refine ev_neg (by omega) ?_
    rw [List.drop_of_length_le (by rw [size_len]; omega)]
    by_cases h1 : 1 ≤ s.size
    · refine ev_pos (by omega) (ev_some ?_)
      rw [decide_eq_true h1]; rfl
    · refine ev_neg (by omega) (ev_some ?_)
      rw [decide_eq_false h1]; rfl
  | succ m ih =>
    intro i hm hi
    have hlt : i < s.data.toList.length := by rw [size_len]; omega
    have next := ih (i + 1) (by omega) (by omega)
    rw [← wrap_next hi hs] at next
    refine ev_succ ?_
    simp only [cambistref02_part.l0]
    refine ev_pos (by omega) (ev_pos (by omega) ?_)
    rw [bt_get s i hlt, drop_at hlt, List.all_cons]
    generalize hc : s.data.toList[i] = c
    refine ev_opt (within_low _) ?_
    cases h1 : isLow c with
    | true =>
      rw [show isSign c = true by unfold isSign; rw [h1]; rfl]
      exact ev_pos rfl next
    | false =>
      refine ev_neg (by decide) (ev_opt (within_up _) ?_)
      cases h2 : isUp c with
      | true =>
        rw [show isSign c = true by unfold isSign; rw [h1, h2]; rfl]
        exact ev_pos rfl next
      | false =>
        refine ev_neg (by decide) (ev_opt (within_dig _) ?_)
        cases h3 : isDig c with
        | true =>
          rw [show isSign c = true by unfold isSign; rw [h1, h2, h3]; rfl]
          exact ev_pos rfl next
        | false =>
          refine ev_neg (by decide) ?_
          by_cases h4 : c.toNat = 45
          · rw [show isSign c = true by unfold isSign; rw [h1, h2, h3, decide_eq_true h4]; rfl]
            exact ev_pos (by omega) next
          · rw [show isSign c = false by unfold isSign; rw [h1, h2, h3, decide_eq_false h4]; rfl]
            exact ev_neg (by omega) (ev_some rfl)
theorem ref_part (s : ByteArray) (most : Int) (hs : s.size ≤ 140737488351232) : Ev (fun k => cambistref02_part.f k s most) (isPart isSign most s) := part_loop s most hs s.size 0 (by omega) (by omega)
theorem ref_word (s : ByteArray) (hs : s.size ≤ 140737488351232) : Ev (fun k => cambistref02_Word.f k s) (isPart isSign 12 s) := ev_call (ref_part s 12 hs) (ev_some rfl)

theorem who_loop (s : ByteArray) (hs : s.size ≤ 140737488351232) : ∀ (m i : Nat), s.size - i = m → i ≤ s.size → 1 ≤ i →
    Ev (fun k => cambistref02_Who.l0 k s (i : Int)) ((s.data.toList.drop i).all fun c => isLow c || isDig c) := by
  intro m
  induction m with
  | zero =>
    intro i hm hi _
    refine ev_succ ?_
    simp only [cambistref02_Who.l0]
    refine ev_neg (by omega) ?_
    rw [List.drop_of_length_le (by rw [size_len]; omega)]
    exact ev_some rfl
  | succ m ih =>
    intro i hm hi h1
    have hlt : i < s.data.toList.length := by rw [size_len]; omega
    have next := ih (i + 1) (by omega) (by omega) (by omega)
    rw [← wrap_next hi hs] at next
    refine ev_succ ?_
    simp only [cambistref02_Who.l0]
    refine ev_pos (by omega) (ev_pos (by omega) ?_)
    rw [bt_get s i hlt, drop_at hlt, List.all_cons]
    refine ev_opt (within_low _) (ev_opt (within_dig _) ?_)
    cases isLow s.data.toList[i] with
    | true => exact ev_pos rfl next
    | false =>
      refine ev_neg (by decide) (ev_neg (by omega) ?_)
      cases isDig s.data.toList[i] with
      | true => exact ev_pos rfl next
      | false => exact ev_neg (by decide) (ev_some rfl)
theorem ref_who (s : ByteArray) (hs : s.size ≤ 140737488351232) : Ev (fun k => cambistref02_Who.f k s) (isWho s) := by
  unfold cambistref02_Who.f
  cases hl : s.data.toList with
  | nil =>
    have h0 : s.size = 0 := by rw [← size_len, hl]; rfl
    have e : isWho s = false := by unfold isWho; rw [hl]
    rw [e]
    refine ev_pos (by omega) (ev_succ ?_)
    simp only [cambistref02_Who.j0]
    exact ev_pos trivial (ev_some rfl)
  | cons c t =>
    have hn : s.size = t.length + 1 := by rw [← size_len, hl]; rfl
    have e4 : isWho s = (isLow c && (t.all fun c => isLow c || isDig c) && decide (t.length + 1 ≤ 8)) := by
      unfold isWho
      rw [hl]
    rw [e4]
    refine ev_neg (by omega) (ev_succ ?_)
    simp only [cambistref02_Who.j0]
    by_cases h8 : t.length + 1 ≤ 8
    · rw [decide_eq_false (show ¬ (s.size : Int) > 8 by omega), decide_eq_true h8, Bool.and_true]
      refine ev_neg (by decide) (ev_succ ?_)
      simp only [cambistref02_Who.l0]
      have hlt : 0 < s.data.toList.length := by rw [size_len]; omega
      have hb := bt_get s 0 hlt
      have hc : s.data.toList[0] = c := by simp [hl]
      rw [hc] at hb
      have next := who_loop s hs (s.size - 1) 1 (by omega) (by omega) (by omega)
      rw [show s.data.toList.drop 1 = t by rw [hl]; rfl] at next
      replace next : Ev (fun k => cambistref02_Who.l0 k s (wrap64 (0 + 1))) (t.all fun c => isLow c || isDig c) := by
        rw [wrap_in (x := 0 + 1) (by decide) (by decide)]
        exact next
      refine ev_pos (by omega) (ev_pos (by omega) ?_)
      rw [show bt s 0 = (c.toNat : Int) from hb]
      refine ev_opt (within_low _) (ev_opt (within_dig _) ?_)
      cases isLow c with
      | true => rw [Bool.true_and]; exact ev_pos rfl next
      | false => exact ev_neg (by decide) (ev_pos trivial (ev_some rfl))
    · rw [decide_eq_true (show (s.size : Int) > 8 by omega), decide_eq_false h8, Bool.and_false]
      exact ev_pos rfl (ev_some rfl)
end Go.Proofs.YtjlifcbddednaaaDoor.E
