/- What slip.Check answers, in plain words. What slip.Make answers, in plain words: it, and the document's. -/
import Derived.Test.YtnngbnhbmgdkoaaDoorNames
import Derived.Test.YtnngbnhbmgdkoaaDoorSumPure
import Derived.Test.YtnngbnhbmgdkoaaDoorJPure
import Derived.Test.YtnngbnhbmgdkoaaDoorPx2
import Derived.Test.YtnngbnhbmgdkoaaDoorJSum
import Derived.Test.YtnngbnhbmgdkoaaDoorPx8
import Derived.Test.YtnngbnhbmgdkoaaDoorPx4
namespace Go.Proofs.YtnngbnhbmgdkoaaDoor.E
open Go.RowKit Go.Proofs.YtnngbnhbmgdkoaaDoor.P Go.Proofs.YtnngbnhbmgdkoaaDoorW.PrintWords Go.Proofs.YtnngbnhbmgdkoaaDoorW.PrintLast
abbrev Row_ := S49
theorem rd_row (l : List Row_) (i : Nat) (h : i < l.length) : rd_T49 l (i : Int) = l[i] := by
  unfold rd_T49
  rw [List.getD_eq_getElem?_getD, Int.toNat_natCast, List.getElem?_eq_getElem h]
  rfl
theorem wrap_sm {i n : Nat} (h : i ≤ n) (hn : n ≤ 1000000) : wrap64 ((i : Int) + 1) = ((i + 1 : Nat) : Int) := wrap_next h (by omega)
def amtsL (ls : List Row_) : List Int := ls.map fun x => x.f2
def rows64 (ls : List Row_) : Prop := ∀ x ∈ ls, in64 x.f2
theorem amtsL_in {op : Int} {ls : List Row_} (ho : in64 op) (h : rows64 ls) : ∀ x ∈ op :: amtsL ls, in64 x := by
  intro x hx
  rcases List.mem_cons.1 hx with rfl | hx
  · exact ho
  · obtain ⟨y, hy, rfl⟩ := List.mem_map.1 hx
    exact h y hy
theorem amtsL_next (op : Int) (ls : List Row_) (i : Nat) (h : i < ls.length) : (op :: amtsL (ls.take i)) ++ [ls[i].f2] = op :: amtsL (ls.take (i + 1)) := by
  unfold amtsL
  rw [List.take_succ_eq_append_getElem h, List.map_append]
  rfl
theorem whole_loop (op : Int) (ls : List Row_) (ho : in64 op) (h : rows64 ls) (hl : ls.length ≤ 1000000) : ∀ (m i : Nat), ls.length - i = m → i ≤ ls.length → Ev (fun k => slip_whole.l0 k (op :: amtsL (ls.take i)) ls (ls.length : Int) (i : Int)) (outOf (op + sumI (amtsL ls))) := by
  intro m
  induction m with
  | zero =>
    intro i hm hi
    obtain rfl : i = ls.length := by omega
    refine ev_succ ?_
    simp only [slip_whole.l0]
    rw [List.take_length]
    refine ev_neg (by omega) (ev_opt (sum_some (by simp [amtsL]; omega) (amtsL_in ho h)) (ev_some rfl))
  | succ m ih =>
    intro i hm hi
    have hlt : i < ls.length := by omega
    refine ev_succ ?_
    simp only [slip_whole.l0]
    rw [rd_row ls i hlt, amtsL_next op ls i hlt, wrap_sm hi hl]
    have hln : (op :: amtsL (ls.take i)).length < 17592186044416 := by
      simp only [amtsL, List.length_cons, List.length_map, List.length_take]
      omega
    exact ev_pos (by omega) (ev_pos (by omega) (ev_pos (by omega) (ev_pos hln (ih (i + 1) (by omega) (by omega)))))
theorem whole_ev (who asset : ByteArray) (day op : Int) (ls : List Row_) (cl : Int) (ho : in64 op) (h : rows64 ls) (hl : ls.length ≤ 1000000) : Ev (fun k => slip_whole.f k who asset day op ls cl) (outOf (op + sumI (amtsL ls))) :=
  whole_loop op ls ho h hl _ 0 rfl (by omega)
def rowOk (x : Row_) : Bool := isPart isSign 12 x.f1 && decide (x.f2 ≠ 0)
/-- May a statement be? -/
def slipB (who asset : ByteArray) (op : Int) (ls : List Row_) (cl : Int) : Bool := isWho who && isPart isUp 6 asset && (decide (ls.length ≤ 1000) && decide (op + sumI (amtsL ls) = cl)) && ls.all rowOk
def slipC (b : Bool) : Int := if b = true then 0 else 190
theorem check_loop (ls : List Row_) (hs : ∀ x ∈ ls, x.f1.size ≤ 140737488351232) (hl : ls.length ≤ 1000000) : ∀ (m i : Nat), ls.length - i = m → i ≤ ls.length → Ev (fun k => slip_Check.l0 k ls (ls.length : Int) (i : Int)) (slipC ((ls.drop i).all rowOk)) := by
  intro m
  induction m with
  | zero =>
    intro i hm hi
    obtain rfl : i = ls.length := by omega
    refine ev_succ ?_
    simp only [slip_Check.l0]
    exact ev_neg (by omega) (ev_some (by simp [slipC]))
  | succ m ih =>
    intro i hm hi
    have hlt : i < ls.length := by omega
    have hr : rowOk ls[i] = (isPart isSign 12 ls[i].f1 && decide (ls[i].f2 ≠ 0)) := rfl
    refine ev_succ ?_
    simp only [slip_Check.l0]
    rw [rd_row ls i hlt, wrap_sm hi hl, List.drop_eq_getElem_cons hlt, List.all_cons, hr]
    refine ev_pos (by omega) (ev_pos (by omega) (ev_pos (by omega) (ev_opt (word_some _ (hs _ (List.getElem_mem hlt))) ?_)))
    cases h1 : isPart isSign 12 ls[i].f1 with
    | false => exact ev_neg (by decide) (ev_some (by simp [slipC]))
    | true =>
      refine ev_pos rfl ?_
      by_cases h2 : ls[i].f2 = 0
      · exact ev_pos h2 (ev_some (by simp [slipC, h2]))
      · refine ev_neg h2 (ev_eq ?_ (ih (i + 1) (by omega) (by omega)))
        simp [h2]
theorem chk_ev (who asset : ByteArray) (day op : Int) (ls : List Row_) (cl : Int) (hw : who.size ≤ 140737488351232) (ha : asset.size ≤ 140737488351232) (ho : in64 op) (hc : in64 cl) (h : rows64 ls) (hs : ∀ x ∈ ls, x.f1.size ≤ 140737488351232) (hl : ls.length ≤ 1000000) :
    Ev (fun k => slip_Check.f k who asset day op ls cl) (slipC (slipB who asset op ls cl)) := by
  have bad : slipB who asset op ls cl = false → Ev (fun k => slip_Check.j0 k true who asset day op ls cl) (slipC (slipB who asset op ls cl)) := fun hb => by
    refine ev_succ ?_
    simp only [slip_Check.j0]
    exact ev_pos (by first | rfl | trivial) (ev_some (by rw [hb]; rfl))
  have hB : slipB who asset op ls cl = (isWho who && isPart isUp 6 asset && (decide (ls.length ≤ 1000) && decide (op + sumI (amtsL ls) = cl)) && ls.all rowOk) := rfl
  unfold slip_Check.f
  refine ev_call (whole_ev who asset day op ls cl ho h hl) (ev_opt (who_some who hw) ?_)
  cases h1 : isWho who with
  | false => exact ev_neg (by decide) (bad (by rw [hB, h1]; simp))
  | true =>
    refine ev_pos rfl (ev_opt (asset_some asset ha) ?_)
    cases h2 : isPart isUp 6 asset with
    | false => exact ev_neg (by decide) (bad (by rw [hB, h2]; simp))
    | true =>
      refine ev_pos rfl ?_
      by_cases h3 : ls.length ≤ 1000
      · refine ev_neg (by omega) ?_
        by_cases h4 : in64 (op + sumI (amtsL ls))
        · rw [outOf_in h4]
          refine ev_pos rfl ?_
          simp only
          by_cases h5 : op + sumI (amtsL ls) = cl
          · have e : (op + sumI (amtsL ls) != cl) = false := by simp [h5]
            rw [e]
            refine ev_succ ?_
            simp only [slip_Check.j0]
            refine ev_neg (by decide) (ev_eq ?_ (check_loop ls hs hl _ 0 rfl (by omega)))
            rw [hB, h1, h2, decide_eq_true h3, decide_eq_true h5, List.drop_zero]
            simp
          · have e : (op + sumI (amtsL ls) != cl) = true := by simp [h5]
            rw [e]
            exact bad (by rw [hB, decide_eq_false h5]; simp)
        · rw [outOf_over h4]
          have h5 : ¬ (op + sumI (amtsL ls) = cl) := fun e => h4 (by rw [e]; exact hc)
          exact ev_neg (by decide) (bad (by rw [hB, decide_eq_false h5]; simp))
      · exact ev_pos (by omega) (bad (by rw [hB, decide_eq_false h3]; simp))
theorem slip_get {who asset : ByteArray} {op : Int} {ls : List Row_} {cl : Int} (h : slipB who asset op ls cl = true) : isWho who = true ∧ isPart isUp 6 asset = true ∧ ls.length ≤ 1000 ∧ op + sumI (amtsL ls) = cl ∧ ∀ x ∈ ls, isPart isSign 12 x.f1 = true ∧ x.f2 ≠ 0 := by
  unfold slipB rowOk at h
  simp only [Bool.and_eq_true, decide_eq_true_eq, List.all_eq_true] at h
  exact ⟨h.1.1.1, h.1.1.2, h.1.2.1, h.1.2.2, h.2⟩
end Go.Proofs.YtnngbnhbmgdkoaaDoor.E
namespace Go.Proofs.YtnngbnhbmgdkoaaDoor.E
open Go.RowKit Go.Proofs.YtnngbnhbmgdkoaaDoor.P Go.Proofs.YtnngbnhbmgdkoaaDoorW.PrintWords Go.Proofs.YtnngbnhbmgdkoaaDoorW.PrintLast
theorem rd_leg (l : List Leg_) (i : Nat) (h : i < l.length) : rd_T47 l (i : Int) = l[i] := by
  unfold rd_T47
  rw [List.getD_eq_getElem?_getD, Int.toNat_natCast, List.getElem?_eq_getElem h]
  rfl
theorem rd_ent (l : List Ent_) (i : Nat) (h : i < l.length) : rd_T45 l (i : Int) = l[i] := by
  unfold rd_T45
  rw [List.getD_eq_getElem?_getD, Int.toNat_natCast, List.getElem?_eq_getElem h]
  rfl
/-- At most fifty entries, of at most fifty legs. -/
def fewE (x : Ent_) : Bool := decide (x.f3.length ≤ 50) && decide (x.f2.size ≤ 100)
def fewS (l : List Ent_) : Bool := decide (l.length ≤ 50) && l.all fewE
theorem few_loop (l : List Ent_) (hl : l.length ≤ 1000000) : ∀ (m i : Nat), l.length - i = m → i ≤ l.length → Ev (fun k => cambistlaw19_few.l0 k l (i : Int)) ((l.drop i).all fewE) := by
  intro m
  induction m with
  | zero =>
    intro i hm hi
    obtain rfl : i = l.length := by omega
    refine ev_succ ?_
    simp only [cambistlaw19_few.l0]
    exact ev_neg (by omega) (ev_some (by simp))
  | succ m ih =>
    intro i hm hi
    have hlt : i < l.length := by omega
    have hr : fewE l[i] = (decide (l[i].f3.length ≤ 50) && decide (l[i].f2.size ≤ 100)) := rfl
    refine ev_succ ?_
    simp only [cambistlaw19_few.l0]
    rw [rd_ent l i hlt, wrap_sm hi hl, List.drop_eq_getElem_cons hlt, List.all_cons, hr]
    refine ev_pos (by omega) (ev_pos (by omega) ?_)
    by_cases h1 : l[i].f3.length ≤ 50
    · refine ev_neg (by omega) ?_
      by_cases h2 : l[i].f2.size ≤ 100
      · refine ev_neg (by omega) (ev_eq ?_ (ih (i + 1) (by omega) (by omega)))
        rw [decide_eq_true h1, decide_eq_true h2]
        simp
      · refine ev_pos (by omega) (ev_some ?_)
        rw [decide_eq_false h2]
        simp
    · refine ev_pos (by omega) (ev_some ?_)
      rw [decide_eq_false h1]
      simp
theorem few_ev (l : List Ent_) : Ev (fun k => cambistlaw19_few.f k l) (fewS l) := by
  unfold cambistlaw19_few.f fewS
  by_cases h1 : l.length ≤ 50
  · rw [decide_eq_true h1]
    refine ev_neg (by omega) (ev_eq ?_ (few_loop l (by omega) _ 0 rfl (by omega)))
    rw [List.drop_zero]
    simp
  · rw [decide_eq_false h1]
    exact ev_pos (by omega) (ev_some rfl)
theorem few_get {l : List Ent_} (h : fewS l = true) : l.length ≤ 50 ∧ ∀ x ∈ l, x.f3.length ≤ 50 ∧ x.f2.size ≤ 100 := by
  unfold fewS fewE at h
  simp only [Bool.and_eq_true, decide_eq_true_eq, List.all_eq_true] at h
  exact h
def legs64 (l : List Ent_) : Prop := ∀ x ∈ l, ∀ g ∈ x.f3, in64 g.f2
theorem got_mem : ∀ (l : List Ent_) (n asset : ByteArray) (a b : Int) (x : Int), x ∈ gotOf l n asset a b → ∃ e ∈ l, ∃ g ∈ e.f3, g.f2 = x
  | [], _, _, _, _, _, h => by cases h
  | e :: l, n, asset, a, b, x, h => by
    unfold gotOf at h
    rcases List.mem_append.1 h with h | h
    · split at h
      · unfold gotLegs at h
        obtain ⟨g, hg, e2⟩ := List.mem_map.1 h
        exact ⟨e, List.mem_cons_self .., g, (List.mem_filter.1 hg).1, e2⟩
      · cases h
    · obtain ⟨e2, h1, h2⟩ := got_mem l n asset a b x h
      exact ⟨e2, List.mem_cons_of_mem _ h1, h2⟩
theorem got_len : ∀ (l : List Ent_) (n asset : ByteArray) (a b : Int), (∀ e ∈ l, e.f3.length ≤ 50) → (gotOf l n asset a b).length ≤ 50 * l.length
  | [], _, _, _, _, _ => by simp [gotOf]
  | e :: l, n, asset, a, b, h => by
    have ih := got_len l n asset a b (fun x hx => h x (List.mem_cons_of_mem _ hx))
    have h1 := h e (List.mem_cons_self ..)
    have h2 : (if a ≤ e.f1 ∧ e.f1 < b then gotLegs e.f3 n asset else []).length ≤ 50 := by
      split
      · unfold gotLegs
        rw [List.length_map]
        exact Nat.le_trans (List.length_filter_le _ _) h1
      · exact Nat.zero_le _
    unfold gotOf
    rw [List.length_append, List.length_cons]
    omega
theorem jsum_some (l : List Ent_) (n asset : ByteArray) (a b : Int) (hf : fewS l = true) (h64 : legs64 l) : journal_Sum.f l n asset a b = some (outOf (sumI (gotOf l n asset a b))) := by
  obtain ⟨hl, h50⟩ := few_get hf
  unfold journal_Sum.f
  rw [if_pos ⟨by omega, fun x hx => by have := (h50 x hx).1; omega⟩]
  refine sum_some (by have := got_len l n asset a b (fun x hx => (h50 x hx).1); omega) (fun x hx => ?_)
  obtain ⟨e, he, g, hg, rfl⟩ := got_mem l n asset a b x hx
  exact h64 e he g hg
/-- The lines of an entry's legs. -/
def rowsIn (num : Int) (rq : ByteArray) (l : List Leg_) (who asset : ByteArray) : List Row_ := (l.filter fun g => decide (g.f0 = who) && decide (g.f1 = asset)).map fun g => ⟨num, rq, g.f2⟩
theorem rowsIn_hit {num : Int} {rq : ByteArray} {g : Leg_} {l : List Leg_} {who asset : ByteArray} (h1 : g.f0 = who) (h2 : g.f1 = asset) : rowsIn num rq (g :: l) who asset = ⟨num, rq, g.f2⟩ :: rowsIn num rq l who asset := by
  unfold rowsIn
  simp [h1, h2]
theorem rowsIn_miss {num : Int} {rq : ByteArray} {g : Leg_} {l : List Leg_} {who asset : ByteArray} (h : ¬ (g.f0 = who ∧ g.f1 = asset)) : rowsIn num rq (g :: l) who asset = rowsIn num rq l who asset := by
  unfold rowsIn
  rw [List.filter_cons, if_neg]
  simpa using h
theorem rowsIn_len (num : Int) (rq : ByteArray) (l : List Leg_) (who asset : ByteArray) : (rowsIn num rq l who asset).length ≤ l.length := by
  unfold rowsIn
  rw [List.length_map]
  exact List.length_filter_le _ _
theorem rowsIn_amts (num : Int) (rq : ByteArray) (l : List Leg_) (who asset : ByteArray) : amtsL (rowsIn num rq l who asset) = gotLegs l who asset := by
  unfold amtsL rowsIn gotLegs
  rw [List.map_map]
  rfl
/-- The lines of a day. -/
def rowsOf : List Ent_ → ByteArray → ByteArray → Int → List Row_
  | [], _, _, _ => []
  | x :: l, who, asset, day => (if x.f1 = day then rowsIn x.f0 x.f2 x.f3 who asset else []) ++ rowsOf l who asset day
theorem rowsOf_amts (who asset : ByteArray) (day : Int) : ∀ l : List Ent_, amtsL (rowsOf l who asset day) = gotOf l who asset day (day + 1)
  | [] => rfl
  | x :: l => by
    have ih := rowsOf_amts who asset day l
    show amtsL ((if x.f1 = day then rowsIn x.f0 x.f2 x.f3 who asset else []) ++ rowsOf l who asset day) = (if day ≤ x.f1 ∧ x.f1 < day + 1 then gotLegs x.f3 who asset else []) ++ gotOf l who asset day (day + 1)
    rw [← ih]
    unfold amtsL
    rw [List.map_append]
    congr 1
    by_cases h : x.f1 = day
    · rw [if_pos h, if_pos (by omega)]
      exact rowsIn_amts ..
    · rw [if_neg h, if_neg (by omega)]
      rfl
theorem rowsOf_len (who asset : ByteArray) (day : Int) : ∀ l : List Ent_, (∀ x ∈ l, x.f3.length ≤ 50) → (rowsOf l who asset day).length ≤ 50 * l.length
  | [], _ => by simp [rowsOf]
  | x :: l, h => by
    have ih := rowsOf_len who asset day l (fun y hy => h y (List.mem_cons_of_mem _ hy))
    have h1 := h x (List.mem_cons_self ..)
    show ((if x.f1 = day then rowsIn x.f0 x.f2 x.f3 who asset else []) ++ rowsOf l who asset day).length ≤ 50 * (x :: l).length
    rw [List.length_append, List.length_cons]
    have : (if x.f1 = day then rowsIn x.f0 x.f2 x.f3 who asset else []).length ≤ 50 := by
      split
      · exact Nat.le_trans (rowsIn_len ..) h1
      · exact Nat.zero_le _
    omega
theorem rowsOf_mem (who asset : ByteArray) (day : Int) : ∀ (l : List Ent_) (r : Row_), r ∈ rowsOf l who asset day → ∃ x ∈ l, x.f1 = day ∧ r.f0 = x.f0 ∧ r.f1 = x.f2 ∧ ∃ g ∈ x.f3, g.f0 = who ∧ g.f1 = asset ∧ r.f2 = g.f2
  | [], r, h => by cases h
  | x :: l, r, h => by
    rcases List.mem_append.1 h with h | h
    · split at h
      · rename_i hd
        unfold rowsIn at h
        obtain ⟨g, hg, e⟩ := List.mem_map.1 h
        obtain ⟨h1, h2⟩ := List.mem_filter.1 hg
        simp only [Bool.and_eq_true, decide_eq_true_eq] at h2
        exact ⟨x, List.mem_cons_self .., hd, by rw [← e], by rw [← e], g, h1, h2.1, h2.2, by rw [← e]⟩
      · cases h
    · obtain ⟨y, hy, h2⟩ := rowsOf_mem who asset day l r h
      exact ⟨y, List.mem_cons_of_mem _ hy, h2⟩
/-- The statement's lines, closing included. -/
def closeOf (who asset : ByteArray) (day op : Int) (ls : List Row_) : ByteArray × ByteArray × Int × Int × List Row_ × Int × Int :=
  if in64 (op + sumI (amtsL ls)) then (who, asset, day, op, ls, op + sumI (amtsL ls), 0) else (⟨#[]⟩, ⟨#[]⟩, 0, 0, [], 0, 10)
def makeOf (l : List Ent_) (who asset : ByteArray) (day : Int) : ByteArray × ByteArray × Int × Int × List Row_ × Int × Int :=
  if in64 (sumI (gotOf l who asset 0 day)) then closeOf who asset day (sumI (gotOf l who asset 0 day)) (rowsOf l who asset day) else (⟨#[]⟩, ⟨#[]⟩, 0, 0, [], 0, 10)
theorem text_eq {a b : ByteArray} : a.toList = b.toList ↔ a = b := toList_inj
theorem make_in (l0 : List Ent_) (who asset : ByteArray) (day op n i num dy : Int) (rq : ByteArray) (lg : List Leg_) (hl : lg.length ≤ 1000) (r : ByteArray × ByteArray × Int × Int × List Row_ × Int × Int) : ∀ (m j : Nat) (acc : List Row_), lg.length - j = m → j ≤ lg.length → acc.length ≤ 1000000 + j →
    Ev (fun k => slip_Make.l0 k who asset day l0 n (wrap64 (i + 1)) who asset day op (acc ++ (if dy = day then rowsIn num rq (lg.drop j) who asset else [])) 0) r →
    Ev (fun k => slip_Make.l1 k who asset day l0 n i lg (lg.length : Int) (j : Int) who asset day op acc 0 num dy rq lg) r := by
  intro m
  induction m with
  | zero =>
    intro j acc hm hj ha hE
    obtain rfl : j = lg.length := by omega
    refine ev_succ ?_
    simp only [slip_Make.l1]
    refine ev_neg (by omega) ?_
    rw [List.drop_length] at hE
    have : (if dy = day then rowsIn num rq [] who asset else []) = [] := by split <;> rfl
    rw [this, List.append_nil] at hE
    exact hE
  | succ m ih =>
    intro j acc hm hj ha hE
    have hlt : j < lg.length := by omega
    rw [List.drop_eq_getElem_cons hlt] at hE
    refine ev_succ ?_
    simp only [slip_Make.l1]
    rw [rd_leg lg j hlt, wrap_sm hj (by omega)]
    refine ev_pos (by omega) (ev_pos (by omega) (ev_pos (by omega) ?_))
    by_cases hd : dy = day
    · refine ev_pos hd ?_
      rw [if_pos hd] at hE
      by_cases h1 : lg[j].f0 = who
      · refine ev_pos (text_eq.2 h1) ?_
        by_cases h2 : lg[j].f1 = asset
        · refine ev_pos (text_eq.2 h2) (ev_pos (by omega) (ih (j + 1) _ (by omega) (by omega) (by rw [List.length_append]; simp only [List.length_cons, List.length_nil]; omega) ?_))
          rw [if_pos hd]
          rw [rowsIn_hit h1 h2] at hE
          simpa using hE
        · refine ev_neg (fun e => h2 (text_eq.1 e)) (ih (j + 1) acc (by omega) (by omega) (by omega) ?_)
          rw [if_pos hd]
          rw [rowsIn_miss (fun e => h2 e.2)] at hE
          exact hE
      · refine ev_neg (fun e => h1 (text_eq.1 e)) (ih (j + 1) acc (by omega) (by omega) (by omega) ?_)
        rw [if_pos hd]
        rw [rowsIn_miss (fun e => h1 e.1)] at hE
        exact hE
    · refine ev_neg hd (ih (j + 1) acc (by omega) (by omega) (by omega) ?_)
      rw [if_neg hd] at hE ⊢
      exact hE
theorem make_out (l : List Ent_) (who asset : ByteArray) (day op : Int) (ho : in64 op) (hl : l.length ≤ 50) (h50 : ∀ x ∈ l, x.f3.length ≤ 50) (h64 : legs64 l) : ∀ (m i : Nat) (acc : List Row_), l.length - i = m → i ≤ l.length → acc.length ≤ 50 * i → rows64 acc →
    Ev (fun k => slip_Make.l0 k who asset day l (l.length : Int) (i : Int) who asset day op acc 0) (closeOf who asset day op (acc ++ rowsOf (l.drop i) who asset day)) := by
  intro m
  induction m with
  | zero =>
    intro i acc hm hi ha hr
    obtain rfl : i = l.length := by omega
    refine ev_succ ?_
    simp only [slip_Make.l0]
    rw [List.drop_length]
    refine ev_neg (by omega) (ev_call (whole_ev who asset day op acc 0 ho hr (by omega)) ?_)
    show Ev _ (closeOf who asset day op (acc ++ []))
    rw [List.append_nil]
    unfold closeOf
    by_cases h : in64 (op + sumI (amtsL acc))
    · rw [outOf_in h, if_pos h]
      exact ev_pos rfl (ev_some rfl)
    · rw [outOf_over h, if_neg h]
      exact ev_neg (by decide) (ev_some rfl)
  | succ m ih =>
    intro i acc hm hi ha hr
    have hlt : i < l.length := by omega
    have hx := h50 _ (List.getElem_mem hlt)
    refine ev_succ ?_
    simp only [slip_Make.l0]
    rw [rd_ent l i hlt]
    refine ev_pos (by omega) (ev_pos (by omega) (ev_pos (by omega) ?_))
    refine make_in l who asset day op _ _ _ _ _ _ (by omega) _ _ 0 acc rfl (by omega) (by omega) ?_
    rw [wrap_sm hi (by omega), List.drop_zero, List.drop_eq_getElem_cons hlt]
    have hlen : (if l[i].f1 = day then rowsIn l[i].f0 l[i].f2 l[i].f3 who asset else []).length ≤ 50 := by
      split
      · exact Nat.le_trans (rowsIn_len ..) hx
      · exact Nat.zero_le _
    refine ev_eq ?_ (ih (i + 1) _ (by omega) (by omega) (by rw [List.length_append]; omega) ?_)
    · show closeOf who asset day op _ = closeOf who asset day op (acc ++ ((if l[i].f1 = day then rowsIn l[i].f0 l[i].f2 l[i].f3 who asset else []) ++ rowsOf (l.drop (i + 1)) who asset day))
      rw [List.append_assoc]
    · intro x hx
      rcases List.mem_append.1 hx with hx | hx
      · exact hr x hx
      · split at hx
        · unfold rowsIn at hx
          obtain ⟨g, hg, rfl⟩ := List.mem_map.1 hx
          exact h64 _ (List.getElem_mem hlt) g (List.mem_filter.1 hg).1
        · cases hx
theorem make_ev (l : List Ent_) (who asset : ByteArray) (day : Int) (hf : fewS l = true) (h64 : legs64 l) : Ev (fun k => slip_Make.f k l who asset day) (makeOf l who asset day) := by
  obtain ⟨hl, h50⟩ := few_get hf
  unfold slip_Make.f makeOf
  refine ev_opt (jsum_some l who asset 0 day hf h64) ?_
  by_cases h : in64 (sumI (gotOf l who asset 0 day))
  · rw [outOf_in h, if_pos h]
    exact ev_pos rfl (make_out l who asset day _ h hl (fun x hx => (h50 x hx).1) h64 _ 0 [] rfl (by omega) (by simp) (fun x hx => by cases hx))
  · rw [outOf_over h, if_neg h]
    exact ev_neg (by decide) (ev_some rfl)
end Go.Proofs.YtnngbnhbmgdkoaaDoor.E
