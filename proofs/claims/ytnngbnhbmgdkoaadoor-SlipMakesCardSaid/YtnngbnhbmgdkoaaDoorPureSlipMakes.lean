/- The document's sum of two amounts. The document's sum: taken in turns, it is the sum, or the error. What the document's statement is, in plain words; two statements that are the same. A statement is the same as itself. The law SlipMakes answers true. -/
import Derived.Test.YtnngbnhbmgdkoaaDoorArith
import Derived.Test.YtnngbnhbmgdkoaaDoorPx4
import Derived.Test.YtnngbnhbmgdkoaaDoorSumPure
import Derived.Test.YtnngbnhbmgdkoaaDoorPx5
import Derived.Test.YtnngbnhbmgdkoaaDoorSPlain
import Derived.Test.YtnngbnhbmgdkoaaDoorPx7
import Derived.Test.YtnngbnhbmgdkoaaDoorPx3
import Derived.Test.YtnngbnhbmgdkoaaDoorSPlain
import Derived.Test.YtnngbnhbmgdkoaaDoorOpenS
import Derived.Test.YtnngbnhbmgdkoaaDoorPx9
namespace Go.Proofs.YtnngbnhbmgdkoaaDoor.E
open Go.RowKit Go.Proofs.YtnngbnhbmgdkoaaDoor.P Go.Proofs.YtnngbnhbmgdkoaaDoorW.PrintWords Go.Proofs.YtnngbnhbmgdkoaaDoorW.PrintLast
theorem ref_add {a b : Int} (ha : in64 a) (hb : in64 b) : cambistref01_Add.f a b = some (outOf (a + b)) := by
  have h1 := ha.1
  have h2 := ha.2
  have h3 := hb.1
  have h4 := hb.2
  unfold cambistref01_Add.f
  by_cases hp : b > 0
  · rw [if_pos hp, wrap_in (x := 9223372036854775807 - b) (by omega) (by omega)]
    by_cases h : in64 (a + b)
    · rw [if_neg (by unfold in64 at h; omega), if_neg (by omega), outOf_in h, wrap64_in h]
    · rw [if_pos (by unfold in64 at h; omega), outOf_over h]
  · rw [if_neg hp]
    by_cases hn : b < 0
    · rw [if_pos hn, wrap_in (x := -9223372036854775808 - b) (by omega) (by omega)]
      by_cases h : in64 (a + b)
      · rw [if_neg (by unfold in64 at h; omega), outOf_in h, wrap64_in h]
      · rw [if_pos (by unfold in64 at h; omega), outOf_over h]
    · have h : in64 (a + b) := by unfold in64; omega
      rw [if_neg hn, outOf_in h, wrap64_in h]
end Go.Proofs.YtnngbnhbmgdkoaaDoor.E
namespace Go.Proofs.YtnngbnhbmgdkoaaDoor.E
open Go.RowKit Go.Proofs.YtnngbnhbmgdkoaaDoor.P Go.Proofs.YtnngbnhbmgdkoaaDoorW.PrintWords Go.Proofs.YtnngbnhbmgdkoaaDoorW.PrintLast
def Ups (l : List Int) : Prop := ∀ x ∈ l, in64 x ∧ 0 ≤ x
def Downs (l : List Int) : Prop := ∀ x ∈ l, in64 x ∧ x < 0
theorem ups_sum {l : List Int} (h : Ups l) : 0 ≤ sumI l := by
  induction l with
  | nil => exact Int.le_refl _
  | cons x l ih =>
    have h1 := (h x (List.mem_cons_self ..)).2
    have h2 := ih (fun y hy => h y (List.mem_cons_of_mem _ hy))
    simp only [sumI]
    omega
theorem downs_sum {l : List Int} (h : Downs l) : sumI l ≤ 0 := by
  induction l with
  | nil => exact Int.le_refl _
  | cons x l ih =>
    have h1 := (h x (List.mem_cons_self ..)).2
    have h2 := ih (fun y hy => h y (List.mem_cons_of_mem _ hy))
    simp only [sumI]
    omega
theorem sum_turns : ∀ (n : Nat) (up down : List Int) (s : Int), up.length + down.length = n → in64 s → Ups up → Downs down → Ev (fun k => cambistref01_Sum.l1 k up down s) (outOf (s + sumI up + sumI down)) := by
  intro n
  induction n with
  | zero =>
    intro up down s hn hs _ _
    have hu : up = [] := List.eq_nil_of_length_eq_zero (by omega)
    have hd : down = [] := List.eq_nil_of_length_eq_zero (by omega)
    subst hu hd
    refine ev_succ ?_
    simp only [cambistref01_Sum.l1]
    refine ev_neg (by decide) (ev_succ ?_)
    simp only [cambistref01_Sum.j2]
    refine ev_neg (by decide) (ev_some ?_)
    rw [outOf_in (by simpa [sumI] using hs)]
    simp [sumI]
  | succ n ih =>
    intro up down s hn hs hU hD
    refine ev_succ ?_
    simp only [cambistref01_Sum.l1]
    have s1 := hs.1
    have s2 := hs.2
    cases up with
    | nil =>
      cases down with
      | nil => simp at hn
      | cons d down =>
        have hd := hD d (List.mem_cons_self ..)
        have hd0 := hd.1.1
        have hd1 := hd.2
        have hD' : Downs down := fun y hy => hD y (List.mem_cons_of_mem _ hy)
        have hS := downs_sum hD'
        refine ev_neg (by simp) ?_
        rw [decide_eq_true (by simp <;> omega)]
        refine ev_succ ?_
        simp only [cambistref01_Sum.j2]
        refine ev_pos trivial (ev_neg (by simp) ?_)
        rw [beq_eq_false_iff_ne.2 (by simp <;> omega)]
        refine ev_succ ?_
        simp only [cambistref01_Sum.j3]
        refine ev_neg (by decide) (ev_neg (by simp) (ev_succ ?_))
        simp only [cambistref01_Sum.j4]
        refine ev_pos (by simp) (ev_pos (by simp <;> omega) (ev_opt (ref_add hs (b := d) hd.1) ?_))
        by_cases h : in64 (s + d)
        · rw [outOf_in h]
          refine ev_pos rfl (ev_pos (by simp <;> omega) ?_)
          refine ev_eq ?_ (ih [] down (s + d) (by simpa using hn) h (fun y hy => by cases hy) hD')
          congr 1
          simp only [sumI]
          omega
        · rw [outOf_over h]
          refine ev_neg (by decide) (ev_some ?_)
          rw [outOf_over]
          simp only [sumI]
          unfold in64 at h ⊢
          omega
    | cons u up =>
      have hu := hU u (List.mem_cons_self ..)
      have hu0 := hu.1.2
      have hu1 := hu.2
      have hU' : Ups up := fun y hy => hU y (List.mem_cons_of_mem _ hy)
      have hS := ups_sum hU'
      refine ev_pos (by simp <;> omega) (ev_succ ?_)
      simp only [cambistref01_Sum.j2]
      refine ev_pos trivial (ev_pos (by simp <;> omega) ?_)
      have up_first : (s < 0 ∨ down = []) → Ev (fun k => cambistref01_Sum.j3 k (u :: up) down s true) (outOf (s + sumI (u :: up) + sumI down)) := by
        intro hor
        refine ev_succ ?_
        simp only [cambistref01_Sum.j3]
        refine ev_pos trivial (ev_pos (by simp <;> omega) (ev_opt (ref_add hs (b := u) hu.1) ?_))
        by_cases h : in64 (s + u)
        · rw [outOf_in h]
          refine ev_pos rfl (ev_pos (by simp <;> omega) ?_)
          refine ev_eq ?_ (ih up down (s + u) (by simp only [List.length_cons] at hn; omega) h hU' hD)
          congr 1
          simp only [sumI]
          omega
        · rw [outOf_over h]
          refine ev_neg (by decide) (ev_some ?_)
          rw [outOf_over]
          rcases hor with hor | rfl
          · exfalso
            apply h
            unfold in64
            omega
          · simp only [sumI]
            unfold in64 at h ⊢
            omega
      by_cases hneg : s < 0
      · exact ev_pos hneg (up_first (.inl hneg))
      · refine ev_neg hneg ?_
        cases down with
        | nil => exact ev_pos rfl (up_first (.inr rfl))
        | cons d down =>
          have hd := hD d (List.mem_cons_self ..)
          have hd0 := hd.1.1
          have hd1 := hd.2
          have hD' : Downs down := fun y hy => hD y (List.mem_cons_of_mem _ hy)
          refine ev_neg (by simp <;> omega) ?_
          rw [beq_eq_false_iff_ne.2 (by simp <;> omega)]
          refine ev_succ ?_
          simp only [cambistref01_Sum.j3]
          refine ev_neg (by decide) (ev_pos (by simp <;> omega) (ev_pos (by omega) (ev_succ ?_)))
          simp only [cambistref01_Sum.j4]
          refine ev_pos trivial (ev_pos (by simp <;> omega) (ev_opt (ref_add hs (b := d) hd.1) ?_))
          have h : in64 (s + d) := by unfold in64; omega
          rw [outOf_in h]
          refine ev_pos rfl (ev_pos (by simp <;> omega) ?_)
          refine ev_eq ?_ (ih (u :: up) down (s + d) (by simp only [List.length_cons] at hn ⊢; omega) h hU hD')
          congr 1
          simp only [sumI]
          omega
theorem rd_in (l : List Int) (i : Nat) (_h : i < l.length) : rd l (i : Int) = l.getD i 0 := by simp [rd]
theorem getD_mem (l : List Int) (i : Nat) (h : i < l.length) : l.getD i 0 ∈ l := by
  rw [List.getD_eq_getElem?_getD, List.getElem?_eq_getElem h]
  exact List.getElem_mem h
theorem sum_parted (l : List Int) (hl : ∀ x ∈ l, in64 x) (hn : l.length ≤ 1048576) : ∀ (m i : Nat) (up down : List Int), l.length - i = m → i ≤ l.length → up.length + down.length = i → Ups up → Downs down → sumI up + sumI down = sumI (l.take i) → Ev (fun k => cambistref01_Sum.l0 k l up down (i : Int)) (outOf (sumI l)) := by
  intro m
  induction m with
  | zero =>
    intro i up down hm hi hlen hU hD hsum
    obtain rfl : i = l.length := by omega
    rw [List.take_length] at hsum
    refine ev_succ ?_
    simp only [cambistref01_Sum.l0]
    refine ev_neg (by omega) (ev_eq ?_ (sum_turns _ up down 0 rfl (by unfold in64; omega) hU hD))
    congr 1
    omega
  | succ m ih =>
    intro i up down hm hi hlen hU hD hsum
    have hlt : i < l.length := by omega
    have hx := hl _ (getD_mem l i hlt)
    have hs' : sumI (l.take (i + 1)) = sumI (l.take i) + l.getD i 0 := by rw [take_next l i hlt, sumI_app]; simp [sumI]
    refine ev_succ ?_
    simp only [cambistref01_Sum.l0]
    rw [rd_in l i hlt, wrap_next (n := 1048576) (by omega) (by decide)]
    refine ev_pos (by omega) (ev_pos (by omega) ?_)
    by_cases h0 : l.getD i 0 ≥ 0
    · refine ev_pos h0 (ev_pos (by omega) (ih (i + 1) _ down (by omega) (by omega) (by simp <;> omega) ?_ hD ?_))
      · intro x hx'
        rcases List.mem_append.1 hx' with hx' | hx'
        · exact hU x hx'
        · rw [List.mem_singleton.1 hx']
          exact ⟨hx, h0⟩
      · rw [hs', sumI_app]
        simp only [sumI]
        omega
    · refine ev_neg h0 (ev_pos (by omega) (ih (i + 1) up _ (by omega) (by omega) (by simp <;> omega) hU ?_ ?_))
      · intro x hx'
        rcases List.mem_append.1 hx' with hx' | hx'
        · exact hD x hx'
        · rw [List.mem_singleton.1 hx']
          exact ⟨hx, by omega⟩
      · rw [hs', sumI_app]
        simp only [sumI]
        omega
theorem ref_sum (l : List Int) (hl : ∀ x ∈ l, in64 x) (hn : l.length ≤ 1048576) : Ev (fun k => cambistref01_Sum.f k l) (outOf (sumI l)) :=
  sum_parted l hl hn _ 0 [] [] rfl (Nat.zero_le _) rfl (fun x hx => by cases hx) (fun x hx => by cases hx) rfl
end Go.Proofs.YtnngbnhbmgdkoaaDoor.E
namespace Go.Proofs.YtnngbnhbmgdkoaaDoor.E
open Go.RowKit Go.Proofs.YtnngbnhbmgdkoaaDoor.P Go.Proofs.YtnngbnhbmgdkoaaDoorW.PrintWords Go.Proofs.YtnngbnhbmgdkoaaDoorW.PrintLast
theorem rwhole_loop (op : Int) (ls : List Row_) (who asset : ByteArray) (day o2 cl : Int) (ho : in64 op) (h : rows64 ls) (hl : ls.length ≤ 1000000) : ∀ (m i : Nat), ls.length - i = m → i ≤ ls.length → Ev (fun k => cambistref19_whole.l0 k (op :: amtsL (ls.take i)) (i : Int) who asset day o2 ls cl) (outOf (op + sumI (amtsL ls))) := by
  intro m
  induction m with
  | zero =>
    intro i hm hi
    obtain rfl : i = ls.length := by omega
    refine ev_succ ?_
    simp only [cambistref19_whole.l0]
    rw [List.take_length]
    refine ev_neg (by omega) (ev_call (ref_sum _ (amtsL_in ho h) (by simp [amtsL]; omega)) (ev_some rfl))
  | succ m ih =>
    intro i hm hi
    have hlt : i < ls.length := by omega
    refine ev_succ ?_
    simp only [cambistref19_whole.l0]
    rw [rd_row ls i hlt, amtsL_next op ls i hlt, wrap_sm hi hl]
    have hln : (op :: amtsL (ls.take i)).length < 17592186044416 := by
      simp only [amtsL, List.length_cons, List.length_map, List.length_take]
      omega
    exact ev_pos (by omega) (ev_pos (by omega) (ev_pos hln (ih (i + 1) (by omega) (by omega))))
theorem rwhole_ev (who asset : ByteArray) (day op : Int) (ls : List Row_) (cl : Int) (ho : in64 op) (h : rows64 ls) (hl : ls.length ≤ 1000000) : Ev (fun k => cambistref19_whole.f k who asset day op ls cl) (outOf (op + sumI (amtsL ls))) :=
  rwhole_loop op ls who asset day op cl ho h hl _ 0 rfl (by omega)
theorem gotLegs_hit {g : Leg_} {l : List Leg_} {who asset : ByteArray} (h1 : g.f0 = who) (h2 : g.f1 = asset) : gotLegs (g :: l) who asset = g.f2 :: gotLegs l who asset := by
  unfold gotLegs
  simp [h1, h2]
theorem gotLegs_miss {g : Leg_} {l : List Leg_} {who asset : ByteArray} (h : ¬ (g.f0 = who ∧ g.f1 = asset)) : gotLegs (g :: l) who asset = gotLegs l who asset := by
  unfold gotLegs
  rw [List.filter_cons, if_neg]
  simpa using h
theorem rsum_in (l : List Ent_) (who asset : ByteArray) (a b : Int) (i : Nat) (hi : i < l.length) (hl : l.length ≤ 50) (hx : l[i].f3.length ≤ 1000) (r : Int × Int) : ∀ (m j : Nat) (acc : List Int), l[i].f3.length - j = m → j ≤ l[i].f3.length → acc.length ≤ 1000000 + j →
    Ev (fun k => cambistref12_Sum.l0 k l who asset a b (acc ++ (if a ≤ l[i].f1 ∧ l[i].f1 < b then gotLegs (l[i].f3.drop j) who asset else [])) ((i + 1 : Nat) : Int)) r →
    Ev (fun k => cambistref12_Sum.l1 k l who asset a b acc (i : Int) (j : Int)) r := by
  have stop : ∀ (acc : List Int) (j : Nat), Ev (fun k => cambistref12_Sum.l0 k l who asset a b acc ((i + 1 : Nat) : Int)) r → Ev (fun k => cambistref12_Sum.j2 k l who asset a b acc (i : Int) (j : Int) false) r := fun acc j hE => by
    refine ev_succ ?_
    simp only [cambistref12_Sum.j2]
    rw [wrap_sm (by omega : i ≤ l.length) (by omega)]
    exact ev_neg (by decide) hE
  intro m
  induction m with
  | zero =>
    intro j acc hm hj ha hE
    obtain rfl : j = l[i].f3.length := by omega
    refine ev_succ ?_
    simp only [cambistref12_Sum.l1]
    rw [rd_ent l i hi]
    rw [List.drop_length] at hE
    have : (if a ≤ l[i].f1 ∧ l[i].f1 < b then gotLegs [] who asset else []) = [] := by split <;> rfl
    rw [this, List.append_nil] at hE
    exact ev_pos (by omega) (ev_pos (by omega) (ev_neg (by omega) (stop acc _ hE)))
  | succ m ih =>
    intro j acc hm hj ha hE
    have hlt : j < l[i].f3.length := by omega
    refine ev_succ ?_
    simp only [cambistref12_Sum.l1]
    rw [rd_ent l i hi]
    refine ev_pos (by omega) (ev_pos (by omega) (ev_pos (by omega) ?_))
    by_cases h1 : a ≤ l[i].f1
    · refine ev_pos h1 ?_
      by_cases h2 : l[i].f1 < b
      · rw [decide_eq_true h2]
        rw [if_pos ⟨h1, h2⟩, List.drop_eq_getElem_cons hlt] at hE
        refine ev_succ ?_
        simp only [cambistref12_Sum.j2]
        rw [rd_ent l i hi, rd_leg _ j hlt, wrap_sm hj (by omega)]
        refine ev_pos trivial (ev_pos (by omega) (ev_pos (by omega) (ev_pos (by omega) (ev_pos (by omega) ?_))))
        by_cases e1 : l[i].f3[j].f0 = who
        · refine ev_pos (text_eq.2 e1) ?_
          by_cases e2 : l[i].f3[j].f1 = asset
          · refine ev_pos (text_eq.2 e2) (ev_pos (by omega) (ih (j + 1) _ (by omega) (by omega) (by rw [List.length_append]; simp only [List.length_cons, List.length_nil]; omega) ?_))
            rw [if_pos ⟨h1, h2⟩]
            rw [gotLegs_hit e1 e2] at hE
            simpa using hE
          · refine ev_neg (fun e => e2 (text_eq.1 e)) (ih (j + 1) acc (by omega) (by omega) (by omega) ?_)
            rw [if_pos ⟨h1, h2⟩]
            rw [gotLegs_miss (fun e => e2 e.2)] at hE
            exact hE
        · refine ev_neg (fun e => e1 (text_eq.1 e)) (ih (j + 1) acc (by omega) (by omega) (by omega) ?_)
          rw [if_pos ⟨h1, h2⟩]
          rw [gotLegs_miss (fun e => e1 e.1)] at hE
          exact hE
      · rw [decide_eq_false h2]
        rw [if_neg (fun e => h2 e.2), List.append_nil] at hE
        exact stop acc _ hE
    · rw [if_neg (fun e => h1 e.1), List.append_nil] at hE
      exact ev_neg h1 (stop acc _ hE)
theorem rsum_out (l : List Ent_) (who asset : ByteArray) (a b : Int) (hl : l.length ≤ 50) (h50 : ∀ x ∈ l, x.f3.length ≤ 50) (h64 : legs64 l) : ∀ (m i : Nat) (acc : List Int), l.length - i = m → i ≤ l.length → acc.length ≤ 50 * i → (∀ x ∈ acc, in64 x) →
    Ev (fun k => cambistref12_Sum.l0 k l who asset a b acc (i : Int)) (outOf (sumI (acc ++ gotOf (l.drop i) who asset a b))) := by
  intro m
  induction m with
  | zero =>
    intro i acc hm hi ha hr
    obtain rfl : i = l.length := by omega
    refine ev_succ ?_
    simp only [cambistref12_Sum.l0]
    rw [List.drop_length]
    show Ev _ (outOf (sumI (acc ++ [])))
    rw [List.append_nil]
    exact ev_neg (by omega) (ev_call (ref_sum acc hr (by omega)) (ev_some rfl))
  | succ m ih =>
    intro i acc hm hi ha hr
    have hlt : i < l.length := by omega
    have hx := h50 _ (List.getElem_mem hlt)
    refine ev_succ ?_
    simp only [cambistref12_Sum.l0]
    refine ev_pos (by omega) (rsum_in l who asset a b i hlt hl (by omega) _ _ 0 acc rfl (by omega) (by omega) ?_)
    rw [List.drop_zero, List.drop_eq_getElem_cons hlt]
    have hlen : (if a ≤ l[i].f1 ∧ l[i].f1 < b then gotLegs l[i].f3 who asset else []).length ≤ 50 := by
      split
      · unfold gotLegs
        rw [List.length_map]
        exact Nat.le_trans (List.length_filter_le _ _) hx
      · exact Nat.zero_le _
    refine ev_eq ?_ (ih (i + 1) _ (by omega) (by omega) (by rw [List.length_append]; omega) ?_)
    · show outOf (sumI _) = outOf (sumI (acc ++ ((if a ≤ l[i].f1 ∧ l[i].f1 < b then gotLegs l[i].f3 who asset else []) ++ gotOf (l.drop (i + 1)) who asset a b)))
      rw [List.append_assoc]
    · intro x hx
      rcases List.mem_append.1 hx with hx | hx
      · exact hr x hx
      · split at hx
        · unfold gotLegs at hx
          obtain ⟨g, hg, rfl⟩ := List.mem_map.1 hx
          exact h64 _ (List.getElem_mem hlt) g (List.mem_filter.1 hg).1
        · cases hx
theorem rsum_ev (l : List Ent_) (who asset : ByteArray) (a b : Int) (hf : fewS l = true) (h64 : legs64 l) : Ev (fun k => cambistref12_Sum.f k l who asset a b) (outOf (sumI (gotOf l who asset a b))) := by
  obtain ⟨hl, h50⟩ := few_get hf
  exact rsum_out l who asset a b hl (fun x hx => (h50 x hx).1) h64 _ 0 [] rfl (by omega) (by simp) (fun x hx => by cases hx)
theorem rmake_in (l : List Ent_) (who asset : ByteArray) (day op : Int) (i : Nat) (hi : i < l.length) (hl : l.length ≤ 50) (hx : l[i].f3.length ≤ 1000) (r : ByteArray × ByteArray × Int × Int × List Row_ × Int × Int) : ∀ (m j : Nat) (acc : List Row_), l[i].f3.length - j = m → j ≤ l[i].f3.length → acc.length ≤ 1000000 + j →
    Ev (fun k => cambistref19_Make.l0 k l who asset day ((i + 1 : Nat) : Int) who asset day op (acc ++ (if l[i].f1 = day then rowsIn l[i].f0 l[i].f2 (l[i].f3.drop j) who asset else [])) 0) r →
    Ev (fun k => cambistref19_Make.l1 k l who asset day (i : Int) (j : Int) who asset day op acc 0) r := by
  have stop : ∀ (acc : List Row_) (j : Nat), Ev (fun k => cambistref19_Make.l0 k l who asset day ((i + 1 : Nat) : Int) who asset day op acc 0) r → Ev (fun k => cambistref19_Make.j2 k l who asset day (i : Int) (j : Int) false who asset day op acc 0) r := fun acc j hE => by
    refine ev_succ ?_
    simp only [cambistref19_Make.j2]
    rw [wrap_sm (by omega : i ≤ l.length) (by omega)]
    exact ev_neg (by decide) hE
  intro m
  induction m with
  | zero =>
    intro j acc hm hj ha hE
    obtain rfl : j = l[i].f3.length := by omega
    refine ev_succ ?_
    simp only [cambistref19_Make.l1]
    rw [rd_ent l i hi]
    rw [List.drop_length] at hE
    have : (if l[i].f1 = day then rowsIn l[i].f0 l[i].f2 [] who asset else []) = [] := by split <;> rfl
    rw [this, List.append_nil] at hE
    exact ev_pos (by omega) (ev_pos (by omega) (ev_neg (by omega) (stop acc _ hE)))
  | succ m ih =>
    intro j acc hm hj ha hE
    have hlt : j < l[i].f3.length := by omega
    refine ev_succ ?_
    simp only [cambistref19_Make.l1]
    rw [rd_ent l i hi]
    refine ev_pos (by omega) (ev_pos (by omega) (ev_pos (by omega) ?_))
    by_cases hd : l[i].f1 = day
    · rw [beq_iff_eq.2 hd]
      rw [if_pos hd, List.drop_eq_getElem_cons hlt] at hE
      refine ev_succ ?_
      simp only [cambistref19_Make.j2]
      rw [rd_ent l i hi, rd_leg _ j hlt, wrap_sm hj (by omega)]
      refine ev_pos trivial (ev_pos (by omega) (ev_pos (by omega) (ev_pos (by omega) (ev_pos (by omega) ?_))))
      by_cases e1 : l[i].f3[j].f0 = who
      · refine ev_pos (text_eq.2 e1) ?_
        by_cases e2 : l[i].f3[j].f1 = asset
        · refine ev_pos (text_eq.2 e2) (ev_pos (by omega) (ih (j + 1) _ (by omega) (by omega) (by rw [List.length_append]; simp only [List.length_cons, List.length_nil]; omega) ?_))
          rw [if_pos hd]
          rw [rowsIn_hit e1 e2] at hE
          simpa using hE
        · refine ev_neg (fun e => e2 (text_eq.1 e)) (ih (j + 1) acc (by omega) (by omega) (by omega) ?_)
          rw [if_pos hd]
          rw [rowsIn_miss (fun e => e2 e.2)] at hE
          exact hE
      · refine ev_neg (fun e => e1 (text_eq.1 e)) (ih (j + 1) acc (by omega) (by omega) (by omega) ?_)
        rw [if_pos hd]
        rw [rowsIn_miss (fun e => e1 e.1)] at hE
        exact hE
    · rw [beq_eq_false_iff_ne.2 hd]
      rw [if_neg hd, List.append_nil] at hE
      exact stop acc _ hE
theorem rmake_out (l : List Ent_) (who asset : ByteArray) (day op : Int) (ho : in64 op) (hl : l.length ≤ 50) (h50 : ∀ x ∈ l, x.f3.length ≤ 50) (h64 : legs64 l) : ∀ (m i : Nat) (acc : List Row_), l.length - i = m → i ≤ l.length → acc.length ≤ 50 * i → rows64 acc →
    Ev (fun k => cambistref19_Make.l0 k l who asset day (i : Int) who asset day op acc 0) (closeOf who asset day op (acc ++ rowsOf (l.drop i) who asset day)) := by
  intro m
  induction m with
  | zero =>
    intro i acc hm hi ha hr
    obtain rfl : i = l.length := by omega
    refine ev_succ ?_
    simp only [cambistref19_Make.l0]
    rw [List.drop_length]
    refine ev_neg (by omega) (ev_call (rwhole_ev who asset day op acc 0 ho hr (by omega)) ?_)
    show Ev _ (closeOf who asset day op (acc ++ []))
    rw [List.append_nil]
    unfold closeOf
    by_cases h : in64 (op + sumI (amtsL acc))
    · rw [outOf_in h, if_pos h]
      exact ev_pos rfl (ev_some rfl)
    · rw [outOf_over h, if_neg h]
      exact ev_neg (by decide) (ev_some rfl)
  | succ m ih =>
    intro i acc hm hi ha hr
    have hlt : i < l.length := by omega
    have hx := h50 _ (List.getElem_mem hlt)
    refine ev_succ ?_
    simp only [cambistref19_Make.l0]
    refine ev_pos (by omega) (rmake_in l who asset day op i hlt hl (by omega) _ _ 0 acc rfl (by omega) (by omega) ?_)
    rw [List.drop_zero, List.drop_eq_getElem_cons hlt]
    have hlen : (if l[i].f1 = day then rowsIn l[i].f0 l[i].f2 l[i].f3 who asset else []).length ≤ 50 := by
      split
      · exact Nat.le_trans (rowsIn_len ..) hx
      · exact Nat.zero_le _
    refine ev_eq ?_ (ih (i + 1) _ (by omega) (by omega) (by rw [List.length_append]; omega) ?_)
    · show closeOf who asset day op _ = closeOf who asset day op (acc ++ ((if l[i].f1 = day then rowsIn l[i].f0 l[i].f2 l[i].f3 who asset else []) ++ rowsOf (l.drop (i + 1)) who asset day))
      rw [List.append_assoc]
    · intro x hx
      rcases List.mem_append.1 hx with hx | hx
      · exact hr x hx
      · split at hx
        · unfold rowsIn at hx
          obtain ⟨g, hg, rfl⟩ := List.mem_map.1 hx
          exact h64 _ (List.getElem_mem hlt) g (List.mem_filter.1 hg).1
        · cases hx
theorem rmake_ev (l : List Ent_) (who asset : ByteArray) (day : Int) (hf : fewS l = true) (h64 : legs64 l) : Ev (fun k => cambistref19_Make.f k l who asset day) (makeOf l who asset day) := by
  obtain ⟨hl, h50⟩ := few_get hf
  unfold cambistref19_Make.f makeOf
  refine ev_call (rsum_ev l who asset 0 day hf h64) ?_
  by_cases h : in64 (sumI (gotOf l who asset 0 day))
  · rw [outOf_in h, if_pos h]
    exact ev_pos rfl (rmake_out l who asset day _ h hl (fun x hx => (h50 x hx).1) h64 _ 0 [] rfl (by omega) (by simp) (fun x hx => by cases hx))
  · rw [outOf_over h, if_neg h]
    exact ev_neg (by decide) (ev_some rfl)
end Go.Proofs.YtnngbnhbmgdkoaaDoor.E
namespace Go.Proofs.YtnngbnhbmgdkoaaDoor.E
open Go.RowKit Go.Proofs.YtnngbnhbmgdkoaaDoor.P Go.Proofs.YtnngbnhbmgdkoaaDoorW.PrintWords Go.Proofs.YtnngbnhbmgdkoaaDoorW.PrintLast
theorem same_loop (who asset : ByteArray) (day op : Int) (ls : List Row_) (cl : Int) (hl : ls.length ≤ 1000000) : ∀ (m i : Nat), ls.length - i = m → i ≤ ls.length → Ev (fun k => cambistref19_Same.l0 k (i : Int) who asset day op ls cl who asset day op ls cl) true := by
  intro m
  induction m with
  | zero =>
    intro i hm hi
    obtain rfl : i = ls.length := by omega
    refine ev_succ ?_
    simp only [cambistref19_Same.l0]
    exact ev_neg (by omega) (ev_some rfl)
  | succ m ih =>
    intro i hm hi
    refine ev_succ ?_
    simp only [cambistref19_Same.l0]
    rw [wrap_sm hi hl]
    exact ev_pos (by omega) (ev_pos (by omega) (ev_pos (by omega) (ev_neg (by simp) (ih (i + 1) (by omega) (by omega)))))
theorem same_ev (who asset : ByteArray) (day op : Int) (ls : List Row_) (cl : Int) (hl : ls.length ≤ 1000000) : Ev (fun k => cambistref19_Same.f k who asset day op ls cl who asset day op ls cl) true := by
  unfold cambistref19_Same.f
  refine ev_pos rfl (ev_pos rfl (ev_pos rfl (ev_pos rfl (ev_pos rfl ?_))))
  have e : ((ls.length : Int) != (ls.length : Int)) = false := by simp
  rw [e]
  refine ev_succ ?_
  simp only [cambistref19_Same.j0]
  exact ev_neg (by decide) (same_loop who asset day op ls cl hl _ 0 rfl (by omega))
end Go.Proofs.YtnngbnhbmgdkoaaDoor.E
namespace Go.Proofs.YtnngbnhbmgdkoaaDoor.Pure
open Go.RowKit Go.Proofs.YtnngbnhbmgdkoaaDoor.P Go.Proofs.YtnngbnhbmgdkoaaDoor.E Go.Proofs.YtnngbnhbmgdkoaaDoorW.PrintWords Go.Proofs.YtnngbnhbmgdkoaaDoorW.PrintLast
theorem ents_64 {l : List Ent_} (h : ∀ a ∈ l, goodEnt a) : legs64 l := fun x hx g hg => by
  have := ((h x hx).2.2.2.1 g hg).2.2
  simp [Lit.wf] at this
  exact this
theorem make_rows (l : List Ent_) (who asset : ByteArray) (day : Int) (hf : fewS l = true) : (makeOf l who asset day).2.2.2.2.1.length ≤ 1000000 := by
  obtain ⟨hl, h50⟩ := few_get hf
  have h := rowsOf_len who asset day l (fun x hx => (h50 x hx).1)
  unfold makeOf closeOf
  split
  · split
    · show (rowsOf l who asset day).length ≤ _
      omega
    · simp
  · simp
theorem SlipMakes (l : List Ent_) (hg : (∀ a ∈ l, goodEnt a) ∧ l.length * Tryd.prog.bytesOf 45 ≤ lim) (who : ByteArray) (_hw : who.size ≤ lim) (asset : ByteArray) (_ha : asset.size ≤ lim) (day : Int) (_hd : (Lit.int .u64 day).wf = true) : ∃ k, cambistlaw19_SlipMakes.f k l who asset day = some true := by
  have h64 := ents_64 hg.1
  refine Ev.rounds (g := fun k => cambistlaw19_SlipMakes.f k l who asset day) ?_
  unfold cambistlaw19_SlipMakes.f
  refine ev_opt (show cambistlaw19_awake.f = some true from rfl) (ev_call (few_ev l) ?_)
  cases hf : fewS l with
  | false => exact ev_neg (by decide) (ev_some rfl)
  | true =>
    refine ev_pos rfl (ev_call (make_ev l who asset day hf h64) (ev_call (rmake_ev l who asset day hf h64) (ev_call (same_ev _ _ _ _ _ _ (make_rows l who asset day hf)) ?_)))
    exact ev_pos rfl (ev_pos rfl (ev_some (by simp)))
end Go.Proofs.YtnngbnhbmgdkoaaDoor.Pure
