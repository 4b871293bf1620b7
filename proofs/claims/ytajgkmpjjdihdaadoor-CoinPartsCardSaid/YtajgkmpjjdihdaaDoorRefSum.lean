/- The document's sum: taken in turns, it is the sum, or the error. -/
import Derived.Test.YtajgkmpjjdihdaaDoorRefAdd
import Derived.Test.YtajgkmpjjdihdaaDoorSumPure
import Derived.Test.YtajgkmpjjdihdaaDoorPx3
namespace Go.Proofs.YtajgkmpjjdihdaaDoor.E
open Go.RowKit Go.Proofs.YtajgkmpjjdihdaaDoor.P Go.Proofs.YtajgkmpjjdihdaaDoorW.PrintWords Go.Proofs.YtajgkmpjjdihdaaDoorW.PrintLast
def Ups (l : List Int) : Prop := ∀ x ∈ l, in64 x ∧ 0 ≤ x
def Downs (l : List Int) : Prop := ∀ x ∈ l, in64 x ∧ x < 0
theorem ups_sum {l : List Int} (h : Ups l) : 0 ≤ sumI l := by
  induction l with
  | nil => exact Int.le_refl _
  | cons x l ih =>
    have h1 := (h x (List.mem_cons_self ..)).2
    have h2 := ih (fun y hy => h y (List.mem_cons_of_mem _ hy))
    simp only [sumI]
    omega
theorem downs_sum {l : List Int} (h : Downs l) : sumI l ≤ 0 := by
  induction l with
  | nil => exact Int.le_refl _
  | cons x l ih =>
    have h1 := (h x (List.mem_cons_self ..)).2
    have h2 := ih (fun y hy => h y (List.mem_cons_of_mem _ hy))
    simp only [sumI]
    omega
theorem sum_turns : ∀ (n : Nat) (up down : List Int) (s : Int), up.length + down.length = n → in64 s → Ups up → Downs down → Ev (fun k => cambistref01_Sum.l1 k up down s) (outOf (s + sumI up + sumI down)) := by
  intro n
  induction n with
  | zero =>
    intro up down s hn hs _ _
    have hu : up = [] := List.eq_nil_of_length_eq_zero (by omega)
    have hd : down = [] := List.eq_nil_of_length_eq_zero (by omega)
    subst hu hd
    refine ev_succ ?_
    simp only [cambistref01_Sum.l1]
    refine ev_neg (by decide) (ev_succ ?_)
    simp only [cambistref01_Sum.j2]
    refine ev_neg (by decide) (ev_some ?_)
    rw [outOf_in (by simpa [sumI] using hs)]
    simp [sumI]
  | succ n ih =>
    intro up down s hn hs hU hD
    refine ev_succ ?_
    simp only [cambistref01_Sum.l1]
    have s1 := hs.1
    have s2 := hs.2
    cases up with
    | nil =>
      cases down with
      | nil => simp at hn
      | cons d down =>
        have hd := hD d (List.mem_cons_self ..)
        have hd0 := hd.1.1
        have hd1 := hd.2
        have hD' : Downs down := fun y hy => hD y (List.mem_cons_of_mem _ hy)
        have hS := downs_sum hD'
        refine ev_neg (by simp) ?_
        rw [decide_eq_true (by simp <;> omega)]
        refine ev_succ ?_
        simp only [cambistref01_Sum.j2]
        refine ev_pos trivial (ev_neg (by simp) ?_)
        rw [beq_eq_false_iff_ne.2 (by simp <;> omega)]
        refine ev_succ ?_
        simp only [cambistref01_Sum.j3]
        refine ev_neg (by decide) (ev_neg (by simp) (ev_succ ?_))
        simp only [cambistref01_Sum.j4]
        refine ev_pos (by simp) (ev_pos (by simp <;> omega) (ev_opt (ref_add hs (b := d) hd.1) ?_))
        by_cases h : in64 (s + d)
        · rw [outOf_in h]
          refine ev_pos rfl (ev_pos (by simp <;> omega) ?_)
          refine ev_eq ?_ (ih [] down (s + d) (by simpa using hn) h (fun y hy => by cases hy) hD')
          congr 1
          simp only [sumI]
          omega
        · rw [outOf_over h]
          refine ev_neg (by decide) (ev_some ?_)
          rw [outOf_over]
          simp only [sumI]
          unfold in64 at h ⊢
          omega
    | cons u up =>
      have hu := hU u (List.mem_cons_self ..)
      have hu0 := hu.1.2
      have hu1 := hu.2
      have hU' : Ups up := fun y hy => hU y (List.mem_cons_of_mem _ hy)
      have hS := ups_sum hU'
      refine ev_pos (by simp <;> omega) (ev_succ ?_)
      simp only [cambistref01_Sum.j2]
      refine ev_pos trivial (ev_pos (by simp <;> omega) ?_)
      have up_first : (s < 0 ∨ down = []) → Ev (fun k => cambistref01_Sum.j3 k (u :: up) down s true) (outOf (s + sumI (u :: up) + sumI down)) := by
        intro hor
        refine ev_succ ?_
        simp only [cambistref01_Sum.j3]
        refine ev_pos trivial (ev_pos (by simp <;> omega) (ev_opt (ref_add hs (b := u) hu.1) ?_))
        by_cases h : in64 (s + u)
        · rw [outOf_in h]
          refine ev_pos rfl (ev_pos (by simp <;> omega) ?_)
          refine ev_eq ?_ (ih up down (s + u) (by simp only [List.length_cons] at hn; omega) h hU' hD)
          congr 1
          simp only [sumI]
          omega
        · rw [outOf_over h]
          refine ev_neg (by decide) (ev_some ?_)
          rw [outOf_over]
          rcases hor with hor | rfl
          · exfalso
            apply h
            unfold in64
            omega
          · simp only [sumI]
            unfold in64 at h ⊢
            omega
      by_cases hneg : s < 0
      · exact ev_pos hneg (up_first (.inl hneg))
      · refine ev_neg hneg ?_
        cases down with
        | nil => exact ev_pos rfl (up_first (.inr rfl))
        | cons d down =>
          have hd := hD d (List.mem_cons_self ..)
          have hd0 := hd.1.1
          have hd1 := hd.2
          have hD' : Downs down := fun y hy => hD y (List.mem_cons_of_mem _ hy)
          refine ev_neg (by simp <;> omega) ?_
          rw [beq_eq_false_iff_ne.2 (by simp <;> omega)]
          refine ev_succ ?_
          simp only [cambistref01_Sum.j3]
          refine ev_neg (by decide) (ev_pos (by simp <;> omega) (ev_pos (by omega) (ev_succ ?_)))
          simp only [cambistref01_Sum.j4]
          refine ev_pos trivial (ev_pos (by simp <;> omega) (ev_opt (ref_add hs (b := d) hd.1) ?_))
          have h : in64 (s + d) := by unfold in64; omega
          rw [outOf_in h]
          refine ev_pos rfl (ev_pos (by simp <;> omega) ?_)
          refine ev_eq ?_ (ih (u :: up) down (s + d) (by simp only [List.length_cons] at hn ⊢; omega) h hU hD')
          congr 1
          simp only [sumI]
          omega
theorem rd_in (l : List Int) (i : Nat) (_h : i < l.length) : rd l (i : Int) = l.getD i 0 := by simp [rd]
theorem getD_mem (l : List Int) (i : Nat) (h : i < l.length) : l.getD i 0 ∈ l := by
  rw [List.getD_eq_getElem?_getD, List.getElem?_eq_getElem h]
  exact List.getElem_mem h
theorem sum_parted (l : List Int) (hl : ∀ x ∈ l, in64 x) (hn : l.length ≤ 1048576) : ∀ (m i : Nat) (up down : List Int), l.length - i = m → i ≤ l.length → up.length + down.length = i → Ups up → Downs down → sumI up + sumI down = sumI (l.take i) → Ev (fun k => cambistref01_Sum.l0 k l up down (i : Int)) (outOf (sumI l)) := by
  intro m
  induction m with
  | zero =>
    intro i up down hm hi hlen hU hD hsum
    obtain rfl : i = l.length := by omega
    rw [List.take_length] at hsum
    refine ev_succ ?_
    simp only [cambistref01_Sum.l0]
    refine ev_neg (by omega) (ev_eq ?_ (sum_turns _ up down 0 rfl (by unfold in64; omega) hU hD))
    congr 1
    omega
  | succ m ih =>
    intro i up down hm hi hlen hU hD hsum
    have hlt : i < l.length := by omega
    have hx := hl _ (getD_mem l i hlt)
    have hs' : sumI (l.take (i + 1)) = sumI (l.take i) + l.getD i 0 := by rw [take_next l i hlt, sumI_app]; simp [sumI]
    refine ev_succ ?_
    simp only [cambistref01_Sum.l0]
    rw [rd_in l i hlt, wrap_next (n := 1048576) (by omega) (by decide)]
    refine ev_pos (by omega) (ev_pos (by omega) ?_)
    by_cases h0 : l.getD i 0 ≥ 0
    · refine ev_pos h0 (ev_pos (by omega) (ih (i + 1) _ down (by omega) (by omega) (by simp <;> omega) ?_ hD ?_))
      · intro x hx'
        rcases List.mem_append.1 hx' with hx' | hx'
        · exact hU x hx'
        · rw [List.mem_singleton.1 hx']
          exact ⟨hx, h0⟩
      · rw [hs', sumI_app]
        simp only [sumI]
        omega
    · refine ev_neg h0 (ev_pos (by omega) (ih (i + 1) up _ (by omega) (by omega) (by simp <;> omega) hU ?_ ?_))
      · intro x hx'
        rcases List.mem_append.1 hx' with hx' | hx'
        · exact hD x hx'
        · rw [List.mem_singleton.1 hx']
          exact ⟨hx, by omega⟩
      · rw [hs', sumI_app]
        simp only [sumI]
        omega
theorem ref_sum (l : List Int) (hl : ∀ x ∈ l, in64 x) (hn : l.length ≤ 1048576) : Ev (fun k => cambistref01_Sum.f k l) (outOf (sumI l)) :=
  sum_parted l hl hn _ 0 [] [] rfl (Nat.zero_le _) rfl (fun x hx => by cases hx) (fun x hx => by cases hx) rfl
theorem sum_some (l : List Int) (hl : ∀ x ∈ l, in64 x) (hn : l.length ≤ 1048576) : coin_Sum.f l = some (outOf (sumI l)) := if_pos ⟨hn, hl⟩
end Go.Proofs.YtajgkmpjjdihdaaDoor.E
