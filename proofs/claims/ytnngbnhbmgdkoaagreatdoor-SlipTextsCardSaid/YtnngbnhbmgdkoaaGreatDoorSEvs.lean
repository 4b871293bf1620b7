/- What slip.Check answers, in plain words. A statement's text is that statement: it is parted again; what is parted is the text; a text that is cut is none. What slip.Text and slip.Parse answer, in plain words. -/
import Derived.Test.YtnngbnhbmgdkoaaGreatDoorNames
import Derived.Test.YtnngbnhbmgdkoaaGreatDoorSumPure
import Derived.Test.YtnngbnhbmgdkoaaGreatDoorJPure
import Derived.Test.YtnngbnhbmgdkoaaGreatDoorPx2
import Derived.Test.YtnngbnhbmgdkoaaGreatDoorSParse
namespace Go.Proofs.YtnngbnhbmgdkoaaGreatDoor.E
open Go.RowKit Go.Proofs.YtnngbnhbmgdkoaaGreatDoor.P Go.Proofs.YtnngbnhbmgdkoaaGreatDoorW.PrintWords Go.Proofs.YtnngbnhbmgdkoaaGreatDoorW.PrintLast
abbrev Row_ := S37
theorem rd_row (l : List Row_) (i : Nat) (h : i < l.length) : rd_T37 l (i : Int) = l[i] := by
  unfold rd_T37
  rw [List.getD_eq_getElem?_getD, Int.toNat_natCast, List.getElem?_eq_getElem h]
  rfl
theorem wrap_sm {i n : Nat} (h : i ≤ n) (hn : n ≤ 1000000) : wrap64 ((i : Int) + 1) = ((i + 1 : Nat) : Int) := wrap_next h (by omega)
def amtsL (ls : List Row_) : List Int := ls.map fun x => x.f2
def rows64 (ls : List Row_) : Prop := ∀ x ∈ ls, in64 x.f2
theorem amtsL_in {op : Int} {ls : List Row_} (ho : in64 op) (h : rows64 ls) : ∀ x ∈ op :: amtsL ls, in64 x := by
  intro x hx
  rcases List.mem_cons.1 hx with rfl | hx
  · exact ho
  · obtain ⟨y, hy, rfl⟩ := List.mem_map.1 hx
    exact h y hy
theorem amtsL_next (op : Int) (ls : List Row_) (i : Nat) (h : i < ls.length) : (op :: amtsL (ls.take i)) ++ [ls[i].f2] = op :: amtsL (ls.take (i + 1)) := by
  unfold amtsL
  rw [List.take_succ_eq_append_getElem h, List.map_append]
  rfl
theorem whole_loop (op : Int) (ls : List Row_) (ho : in64 op) (h : rows64 ls) (hl : ls.length ≤ 1000000) : ∀ (m i : Nat), ls.length - i = m → i ≤ ls.length → Ev (fun k => slip_whole.l0 k (op :: amtsL (ls.take i)) ls (ls.length : Int) (i : Int)) (outOf (op + sumI (amtsL ls))) := by
  intro m
  induction m with
  | zero =>
    intro i hm hi
    obtain rfl : i = ls.length := by omega
    refine ev_succ ?_
    simp only [slip_whole.l0]
    rw [List.take_length]
    refine ev_neg (by omega) (ev_opt (sum_some (by simp [amtsL]; omega) (amtsL_in ho h)) (ev_some rfl))
  | succ m ih =>
    intro i hm hi
    have hlt : i < ls.length := by omega
    refine ev_succ ?_
    simp only [slip_whole.l0]
    rw [rd_row ls i hlt, amtsL_next op ls i hlt, wrap_sm hi hl]
    have hln : (op :: amtsL (ls.take i)).length < 17592186044416 := by
      simp only [amtsL, List.length_cons, List.length_map, List.length_take]
      omega
    exact ev_pos (by omega) (ev_pos (by omega) (ev_pos (by omega) (ev_pos hln (ih (i + 1) (by omega) (by omega)))))
theorem whole_ev (who asset : ByteArray) (day op : Int) (ls : List Row_) (cl : Int) (ho : in64 op) (h : rows64 ls) (hl : ls.length ≤ 1000000) : Ev (fun k => slip_whole.f k who asset day op ls cl) (outOf (op + sumI (amtsL ls))) :=
  whole_loop op ls ho h hl _ 0 rfl (by omega)
def rowOk (x : Row_) : Bool := isPart isSign 12 x.f1 && decide (x.f2 ≠ 0)
/-- May a statement be? -/
def slipB (who asset : ByteArray) (op : Int) (ls : List Row_) (cl : Int) : Bool := isWho who && isPart isUp 6 asset && (decide (ls.length ≤ 1000) && decide (op + sumI (amtsL ls) = cl)) && ls.all rowOk
def slipC (b : Bool) : Int := if b = true then 0 else 190
theorem check_loop (ls : List Row_) (hs : ∀ x ∈ ls, x.f1.size ≤ 140737488351232) (hl : ls.length ≤ 1000000) : ∀ (m i : Nat), ls.length - i = m → i ≤ ls.length → Ev (fun k => slip_Check.l0 k ls (ls.length : Int) (i : Int)) (slipC ((ls.drop i).all rowOk)) := by
  intro m
  induction m with
  | zero =>
    intro i hm hi
    obtain rfl : i = ls.length := by omega
    refine ev_succ ?_
    simp only [slip_Check.l0]
    exact ev_neg (by omega) (ev_some (by simp [slipC]))
  | succ m ih =>
    intro i hm hi
    have hlt : i < ls.length := by omega
    have hr : rowOk ls[i] = (isPart isSign 12 ls[i].f1 && decide (ls[i].f2 ≠ 0)) := rfl
    refine ev_succ ?_
    simp only [slip_Check.l0]
    rw [rd_row ls i hlt, wrap_sm hi hl, List.drop_eq_getElem_cons hlt, List.all_cons, hr]
    refine ev_pos (by omega) (ev_pos (by omega) (ev_pos (by omega) (ev_opt (word_some _ (hs _ (List.getElem_mem hlt))) ?_)))
    cases h1 : isPart isSign 12 ls[i].f1 with
    | false => exact ev_neg (by decide) (ev_some (by simp [slipC]))
    | true =>
      refine ev_pos rfl ?_
      by_cases h2 : ls[i].f2 = 0
      · exact ev_pos h2 (ev_some (by simp [slipC, h2]))
      · refine ev_neg h2 (ev_eq ?_ (ih (i + 1) (by omega) (by omega)))
        simp [h2]
theorem chk_ev (who asset : ByteArray) (day op : Int) (ls : List Row_) (cl : Int) (hw : who.size ≤ 140737488351232) (ha : asset.size ≤ 140737488351232) (ho : in64 op) (hc : in64 cl) (h : rows64 ls) (hs : ∀ x ∈ ls, x.f1.size ≤ 140737488351232) (hl : ls.length ≤ 1000000) :
    Ev (fun k => slip_Check.f k who asset day op ls cl) (slipC (slipB who asset op ls cl)) := by
  have bad : slipB who asset op ls cl = false → Ev (fun k => slip_Check.j0 k true who asset day op ls cl) (slipC (slipB who asset op ls cl)) := fun hb => by
    refine ev_succ ?_
    simp only [slip_Check.j0]
    exact ev_pos (by first | rfl | trivial) (ev_some (by rw [hb]; rfl))
  have hB : slipB who asset op ls cl = (isWho who && isPart isUp 6 asset && (decide (ls.length ≤ 1000) && decide (op + sumI (amtsL ls) = cl)) && ls.all rowOk) := rfl
  unfold slip_Check.f
  refine ev_call (whole_ev who asset day op ls cl ho h hl) (ev_opt (who_some who hw) ?_)
  cases h1 : isWho who with
  | false => exact ev_neg (by decide) (bad (by rw [hB, h1]; simp))
  | true =>
    refine ev_pos rfl (ev_opt (asset_some asset ha) ?_)
    cases h2 : isPart isUp 6 asset with
    | false => exact ev_neg (by decide) (bad (by rw [hB, h2]; simp))
    | true =>
      refine ev_pos rfl ?_
      by_cases h3 : ls.length ≤ 1000
      · refine ev_neg (by omega) ?_
        by_cases h4 : in64 (op + sumI (amtsL ls))
        · rw [outOf_in h4]
          refine ev_pos rfl ?_
          simp only
          by_cases h5 : op + sumI (amtsL ls) = cl
          · have e : (op + sumI (amtsL ls) != cl) = false := by simp [h5]
            rw [e]
            refine ev_succ ?_
            simp only [slip_Check.j0]
            refine ev_neg (by decide) (ev_eq ?_ (check_loop ls hs hl _ 0 rfl (by omega)))
            rw [hB, h1, h2, decide_eq_true h3, decide_eq_true h5, List.drop_zero]
            simp
          · have e : (op + sumI (amtsL ls) != cl) = true := by simp [h5]
            rw [e]
            exact bad (by rw [hB, decide_eq_false h5]; simp)
        · rw [outOf_over h4]
          have h5 : ¬ (op + sumI (amtsL ls) = cl) := fun e => h4 (by rw [e]; exact hc)
          exact ev_neg (by decide) (bad (by rw [hB, decide_eq_false h5]; simp))
      · exact ev_pos (by omega) (bad (by rw [hB, decide_eq_false h3]; simp))
theorem slip_get {who asset : ByteArray} {op : Int} {ls : List Row_} {cl : Int} (h : slipB who asset op ls cl = true) : isWho who = true ∧ isPart isUp 6 asset = true ∧ ls.length ≤ 1000 ∧ op + sumI (amtsL ls) = cl ∧ ∀ x ∈ ls, isPart isSign 12 x.f1 = true ∧ x.f2 ≠ 0 := by
  unfold slipB rowOk at h
  simp only [Bool.and_eq_true, decide_eq_true_eq, List.all_eq_true] at h
  exact ⟨h.1.1.1, h.1.1.2, h.1.2.1, h.1.2.2, h.2⟩
end Go.Proofs.YtnngbnhbmgdkoaaGreatDoor.E
namespace Go.Proofs.YtnngbnhbmgdkoaaGreatDoor.E
open Go.RowKit Go.Proofs.YtnngbnhbmgdkoaaGreatDoor.P Go.Proofs.YtnngbnhbmgdkoaaGreatDoorW.PrintWords Go.Proofs.YtnngbnhbmgdkoaaGreatDoorW.PrintLast
theorem cutC_append (c : UInt8) (x y : List UInt8) : cutAt c (x ++ c :: y) = cutAt c x ++ cutAt c y := by
  induction x with
  | nil => rw [List.nil_append, cutAt_cons_eq]; rfl
  | cons b x ih =>
    by_cases h : b = c
    · subst h
      rw [List.cons_append, cutAt_cons_eq, cutAt_cons_eq, ih]
      rfl
    · obtain ⟨u, t, e1, e2⟩ := cutAt_cons_ne h x
      obtain ⟨u', t', e1', e2'⟩ := cutAt_cons_ne h (x ++ c :: y)
      rw [List.cons_append, e2', e2]
      rw [ih, e1] at e1'
      simp only [List.cons_append, List.cons.injEq] at e1'
      rw [← e1'.1, ← e1'.2]
      rfl
theorem cutC_none (c : UInt8) (x : List UInt8) (h : ∀ b ∈ x, b ≠ c) : cutAt c x = [x] := by
  induction x with
  | nil => rfl
  | cons b x ih =>
    obtain ⟨u, t, e1, e2⟩ := cutAt_cons_ne (h b (List.mem_cons_self ..)) x
    rw [ih (fun c hc => h c (List.mem_cons_of_mem _ hc))] at e1
    simp only [List.cons.injEq] at e1
    rw [e2, ← e1.1, ← e1.2]
theorem cutC_join (c : UInt8) : ∀ l : List UInt8, Lib.join (cutAt c l) [c] = l
  | [] => rfl
  | b :: l => by
    have ih := cutC_join c l
    by_cases h : b = c
    · subst h
      rw [cutAt_cons_eq]
      obtain ⟨x, t, e⟩ : ∃ x t, cutAt b l = x :: t := by
        cases hc : cutAt b l with
        | nil => exact absurd hc (cutAt_ne b l)
        | cons x t => exact ⟨x, t, rfl⟩
      rw [e] at ih ⊢
      simp only [Lib.join, List.intercalate, List.intersperse] at ih ⊢
      simpa using ih
    · obtain ⟨x, t, e1, e2⟩ := cutAt_cons_ne h l
      rw [e2]
      rw [e1] at ih
      rw [← ih]
      rw [Lib.join_cons, Lib.join_cons]
      rfl
/-- The bytes of words with a byte between. -/
def gl (c : UInt8) (ws : List ByteArray) : List UInt8 := Lib.join (ws.map (·.data.toList)) [c]
theorem gl_split (c : UInt8) (s : ByteArray) : gl c (splitOn s c) = s.data.toList := by
  unfold gl splitOn
  rw [List.map_map]
  have e : (cutAt c s.data.toList).map ((fun x : ByteArray => x.data.toList) ∘ fun l => (⟨l.toArray⟩ : ByteArray)) = cutAt c s.data.toList := by
    simp [Function.comp_def]
  rw [e]
  exact cutC_join c _
def noC (c : UInt8) (s : ByteArray) : Prop := ∀ b ∈ s.data.toList, b ≠ c
theorem gl_one (c : UInt8) (w : ByteArray) : gl c [w] = w.data.toList := Lib.join_one ..
theorem gl_cons (c : UInt8) (w v : ByteArray) (t : List ByteArray) : gl c (w :: v :: t) = w.data.toList ++ c :: gl c (v :: t) := by
  unfold gl
  rw [List.map_cons, List.map_cons, Lib.join_cons, Lib.join_cons]
  simp [Lib.joinTail]
theorem cut_gl (c : UInt8) : ∀ (ws : List ByteArray), ws ≠ [] → (∀ w ∈ ws, noC c w) → cutAt c (gl c ws) = ws.map (·.data.toList)
  | [], h, _ => absurd rfl h
  | [w], _, h => by
    rw [gl_one, cutC_none c _ (h w (List.mem_cons_self ..))]
    rfl
  | w :: v :: t, _, h => by
    rw [gl_cons, cutC_append, cutC_none c _ (h w (List.mem_cons_self ..)), cut_gl c (v :: t) (by simp) (fun x hx => h x (List.mem_cons_of_mem _ hx))]
    rfl
theorem joinB_data (ws : List ByteArray) : (joinB ws ⟨#[32]⟩).data.toList = gl 32 ws := rfl
theorem split_joinB (ws : List ByteArray) (h0 : ws ≠ []) (h : ∀ w ∈ ws, noC 32 w) : splitOn (joinB ws ⟨#[32]⟩) 32 = ws := by
  unfold splitOn
  rw [joinB_data, cut_gl 32 ws h0 h, List.map_map]
  have : ((fun l => (⟨l.toArray⟩ : ByteArray)) ∘ fun x : ByteArray => x.data.toList) = id := by
    funext x
    rfl
  rw [this, List.map_id]
theorem join_splitB (s : ByteArray) : joinB (splitOn s 32) ⟨#[32]⟩ = s := text_ext (by rw [joinB_data, gl_split])
/-- Lines, each with a byte 10 behind it. -/
def flat (L : List ByteArray) : List UInt8 := L.flatMap fun s => s.data.toList ++ [10]
theorem flat_cons (s : ByteArray) (L : List ByteArray) : flat (s :: L) = s.data.toList ++ 10 :: flat L := by simp [flat]
theorem flat_app (L M : List ByteArray) : flat (L ++ M) = flat L ++ flat M := by simp [flat]
theorem cut_flat : ∀ (L : List ByteArray), (∀ s ∈ L, noC 10 s) → cutAt 10 (flat L) = L.map (·.data.toList) ++ [[]]
  | [], _ => rfl
  | s :: L, h => by
    rw [flat_cons, cutC_append, cutC_none 10 _ (h s (List.mem_cons_self ..)), cut_flat L (fun x hx => h x (List.mem_cons_of_mem _ hx))]
    rfl
theorem cut_flat_take : ∀ (L : List ByteArray), (∀ s ∈ L, noC 10 s) → ∀ j, j < (flat L).length → ∃ m x, m < L.length ∧ cutAt 10 ((flat L).take j) = (L.take m).map (·.data.toList) ++ [x]
  | [], _, j, hj => by simp [flat] at hj
  | s :: L, h, j, hj => by
    rw [flat_cons] at hj ⊢
    have hs := h s (List.mem_cons_self ..)
    by_cases h1 : j ≤ s.data.toList.length
    · refine ⟨0, s.data.toList.take j, by simp, ?_⟩
      rw [List.take_append_of_le_length h1, cutC_none 10 _ (fun b hb => hs b (List.mem_of_mem_take hb))]
      rfl
    · obtain ⟨i, rfl⟩ : ∃ i, j = s.data.toList.length + (i + 1) := ⟨j - s.data.toList.length - 1, by omega⟩
      rw [List.length_append, List.length_cons] at hj
      obtain ⟨m, x, hm, e⟩ := cut_flat_take L (fun y hy => h y (List.mem_cons_of_mem _ hy)) i (by omega)
      refine ⟨m + 1, x, by simp only [List.length_cons]; omega, ?_⟩
      rw [List.take_length_add_append, List.take_succ_cons, cutC_append, cutC_none 10 _ hs, e]
      rfl
theorem gl_flat : ∀ (L : List ByteArray), gl 10 (L ++ [⟨#[]⟩]) = flat L
  | [] => rfl
  | [s] => by
    show gl 10 [s, ⟨#[]⟩] = _
    rw [gl_cons, gl_one, flat_cons]
    rfl
  | s :: t :: L => by
    have ih := gl_flat (t :: L)
    rw [flat_cons, ← ih]
    show gl 10 (s :: t :: (L ++ [⟨#[]⟩])) = _
    rw [gl_cons]
    rfl
theorem unmap (L : List ByteArray) : (L.map (·.data.toList)).map (fun l => (⟨l.toArray⟩ : ByteArray)) = L := by
  rw [List.map_map]
  have : ((fun l => (⟨l.toArray⟩ : ByteArray)) ∘ fun x : ByteArray => x.data.toList) = id := by
    funext x
    rfl
  rw [this, List.map_id]
/-- The words of a statement's lines. -/
def kSt : ByteArray := ⟨#[83, 84, 65, 84, 69, 77, 69, 78, 84]⟩
def kOp : ByteArray := ⟨#[79, 80, 69, 78]⟩
def kPo : ByteArray := ⟨#[80, 79, 83, 84]⟩
def kCl : ByteArray := ⟨#[67, 76, 79, 83, 69]⟩
def jn (ws : List ByteArray) : ByteArray := joinB ws ⟨#[32]⟩
def postL (x : Line_) : ByteArray := jn [kPo, decOf x.f0, x.f1, amtOf x.f2]
def textL (who asset : ByteArray) (day op : Int) (ls : List Line_) (cl : Int) : List ByteArray := jn [kSt, who, asset, decOf day] :: jn [kOp, amtOf op] :: (ls.map postL ++ [jn [kCl, amtOf cl]])
theorem flat_posts (ls : List Line_) : flat (ls.map postL) = ls.flatMap postOf := by
  induction ls with
  | nil => rfl
  | cons x t ih =>
    rw [List.map_cons, flat_cons, ih]
    simp [postOf, lineOf, postL, jn, kPo]
theorem text_flat (who asset : ByteArray) (day op : Int) (ls : List Line_) (cl : Int) : textOf who asset day op ls cl = flat (textL who asset day op ls cl) := by
  unfold textOf textL headOf
  rw [flat_cons, flat_cons, flat_app, flat_posts, flat_cons]
  simp [lineOf, jn, flat, kSt, kOp, kCl]
/-- What a statement's parts are, that its text can be parted again. -/
structure SOk (who asset : ByteArray) (day op : Int) (ls : List Line_) (cl : Int) : Prop where
  who : noC 32 who ∧ noC 10 who
  asset : noC 32 asset ∧ noC 10 asset
  day : 0 ≤ day ∧ day < 18446744073709551616
  op : in64 op
  ls : ∀ x ∈ ls, (noC 32 x.f1 ∧ noC 10 x.f1) ∧ (0 ≤ x.f0 ∧ x.f0 < 18446744073709551616) ∧ in64 x.f2
  cl : in64 cl
theorem ten_not {c : UInt8} (h : isTen c) : c ≠ 32 ∧ c ≠ 10 := ⟨fun e => by rw [e] at h; exact absurd h.1 (by decide), fun e => by rw [e] at h; exact absurd h.1 (by decide)⟩
theorem dec_noC {n : Int} (h0 : 0 ≤ n) (h1 : n < 18446744073709551616) : noC 32 (decOf n) ∧ noC 10 (decOf n) := by
  obtain ⟨f, _⟩ := decText_facts n.toNat (by omega)
  exact ⟨fun b hb => (ten_not (f b hb)).1, fun b hb => (ten_not (f b hb)).2⟩
theorem amt_noC {a : Int} (h : in64 a) : noC 32 (amtOf a) ∧ noC 10 (amtOf a) := by
  have h1 := h.1
  have h2 := h.2
  have key : ∀ b ∈ intText a, b ≠ 32 ∧ b ≠ 10 := fun b hb => by
    unfold intText at hb
    split at hb
    · rcases List.mem_cons.1 hb with rfl | hb
      · decide
      · exact ten_not ((decText_facts a.natAbs (by omega)).1 b hb)
    · exact ten_not ((decText_facts a.toNat (by omega)).1 b hb)
  exact ⟨fun b hb => (key b hb).1, fun b hb => (key b hb).2⟩
theorem uintP_dec {n : Int} (h0 : 0 ≤ n) (h1 : n < 18446744073709551616) : uintP (decOf n) = some n.toNat := by
  obtain ⟨f1, f2, f3, _⟩ := decText_facts n.toNat (by omega)
  unfold uintP
  have e : (decOf n).data.toList = decText n.toNat := rfl
  have e2 : Lib.parseUintB 64 (decText n.toNat) = .ok n.toNat := by
    unfold Lib.parseUintB
    rw [if_neg f3, parse_digits _ (by decide) _ _ f1 (by rw [f2]; omega), f2]
  rw [e, e2]
  exact if_pos rfl
theorem uintP_is {s : ByteArray} {u : Nat} (h : uintP s = some u) : s = decOf (u : Int) := by
  unfold uintP at h
  split at h
  · rename_i v hv
    split at h
    · rename_i e
      obtain rfl := Option.some.inj h
      exact text_ext (by rw [← e]; rfl)
    · cases h
  · cases h
theorem amtP_amt {a : Int} (h : in64 a) : amtP (amtOf a) = some a := by
  unfold amtP
  have e : (amtOf a).data.toList = intText a := rfl
  rw [e, parseOf_text h]
  rfl
theorem amtP_is {s : ByteArray} {a : Int} (h : amtP s = some a) : s = amtOf a ∧ in64 a := by
  unfold amtP at h
  rcases parseOf_cases s.data.toList with ⟨v, hv, e, e2⟩ | ⟨_, e2⟩
  · rw [e2, if_pos rfl] at h
    obtain rfl := Option.some.inj h
    exact ⟨text_ext e.symm, hv⟩
  · rw [e2, if_neg (by decide)] at h
    cases h
theorem lit_noC : ∀ w ∈ [kSt, kOp, kPo, kCl], noC 32 w ∧ noC 10 w := by
  intro w hw
  simp only [List.mem_cons, List.not_mem_nil, or_false] at hw
  rcases hw with rfl | rfl | rfl | rfl <;> exact ⟨by unfold noC; decide, by unfold noC; decide⟩
theorem take_jn {first : ByteArray} {ws : List ByteArray} (t : List ByteArray) (n : Nat) (hn : n = ws.length + 1) (h1 : noC 32 first) (h : ∀ w ∈ ws, noC 32 w) : takeW first n (jn (first :: ws) :: t) = some (ws, t) := by
  have e : splitOn (jn (first :: ws)) 32 = first :: ws := split_joinB _ (by simp) (by
    intro w hw
    rcases List.mem_cons.1 hw with rfl | hw
    · exact h1
    · exact h w hw)
  simp only [takeW]
  rw [e]
  have : okW first n (first :: ws) = true := by
    unfold okW
    simp [hn]
  rw [if_pos this]
  rfl
theorem take_is {first : ByteArray} {n : Nat} {L ws t : List ByteArray} (h : takeW first n L = some (ws, t)) : L = jn (first :: ws) :: t ∧ ws.length + 1 = n := by
  cases L with
  | nil => cases h
  | cons s t' =>
    simp only [takeW] at h
    split at h
    · rename_i hk
      obtain ⟨rfl, rfl⟩ := Prod.mk.inj (Option.some.inj h)
      have hl := okW_len hk
      unfold okW at hk
      rw [Bool.and_eq_true, decide_eq_true_eq, decide_eq_true_eq] at hk
      have hp := split_pos s 32
      cases hq : splitOn s 32 with
      | nil => rw [hq] at hp; simp at hp
      | cons a r =>
        rw [hq] at hk
        have ha : a = first := hk.2
        refine ⟨?_, ?_⟩
        · have := join_splitB s
          rw [hq, ha] at this
          rw [← this]
          rfl
        · have := hk.1
          simpa using this
    · cases h
theorem prefix_post (x : Line_) : Lib.hasPrefix (postL x).data.toList (kPo ++ blank).data.toList = true := by
  have e : (postL x).data.toList = 80 :: 79 :: 83 :: 84 :: 32 :: gl 32 [decOf x.f0, x.f1, amtOf x.f2] := by
    show gl 32 [kPo, decOf x.f0, x.f1, amtOf x.f2] = _
    rw [gl_cons]
    rfl
  rw [e]
  simp [Lib.hasPrefix, kPo, blank, ByteArray.data_append]
theorem prefix_close (cl : Int) : Lib.hasPrefix (jn [kCl, amtOf cl]).data.toList (kPo ++ blank).data.toList = false := by
  have e : (jn [kCl, amtOf cl]).data.toList = 67 :: 76 :: 79 :: 83 :: 69 :: 32 :: gl 32 [amtOf cl] := by
    show gl 32 [kCl, amtOf cl] = _
    rw [gl_cons]
    rfl
  rw [e]
  rfl
theorem line_back {x : Line_} (h : (0 ≤ x.f0 ∧ x.f0 < 18446744073709551616) ∧ in64 x.f2) : lineP [decOf x.f0, x.f1, amtOf x.f2] = some x := by
  simp only [lineP]
  rw [uintP_dec h.1.1 h.1.2]
  simp only
  rw [amtP_amt h.2]
  simp only
  rw [Int.toNat_of_nonneg h.1.1]
theorem posts_back (M : List ByteArray) (hM : nextB kPo M = false) : ∀ ls : List Line_, (∀ x ∈ ls, (noC 32 x.f1 ∧ noC 10 x.f1) ∧ (0 ≤ x.f0 ∧ x.f0 < 18446744073709551616) ∧ in64 x.f2) → postsP (ls.map postL ++ M) = some (ls, M)
  | [], _ => by
    cases M with
    | nil => rfl
    | cons s t =>
      show postsP (s :: t) = _
      unfold postsP
      exact if_neg (by rw [show nextB ⟨#[80, 79, 83, 84]⟩ (s :: t) = false from hM]; simp)
  | x :: t, h => by
    have ih := posts_back M hM t (fun y hy => h y (List.mem_cons_of_mem _ hy))
    obtain ⟨h1, h2, h3⟩ := h x (List.mem_cons_self ..)
    rw [List.map_cons, List.cons_append]
    unfold postsP
    rw [if_pos (show nextB ⟨#[80, 79, 83, 84]⟩ (postL x :: (t.map postL ++ M)) = true from prefix_post x)]
    have e : splitOn (postL x) 32 = [kPo, decOf x.f0, x.f1, amtOf x.f2] := split_joinB _ (by simp) (by
      intro w hw
      simp only [List.mem_cons, List.not_mem_nil, or_false] at hw
      rcases hw with rfl | rfl | rfl | rfl
      · exact (lit_noC _ (by simp)).1
      · exact (dec_noC h2.1 h2.2).1
      · exact h1.1
      · exact (amt_noC h3).1)
    rw [e, if_pos (by unfold okW; simp [kPo]), List.drop_succ_cons, List.drop_zero, line_back ⟨h2, h3⟩]
    simp only
    rw [ih]
    rfl
theorem posts_is : ∀ {L : List ByteArray} {ls : List Line_} {M : List ByteArray}, postsP L = some (ls, M) → L = ls.map postL ++ M ∧ ∀ x ∈ ls, (0 ≤ x.f0 ∧ x.f0 < 18446744073709551616) ∧ in64 x.f2
  | [], ls, M, h => by
    obtain ⟨rfl, rfl⟩ := Prod.mk.inj (Option.some.inj h)
    exact ⟨rfl, fun x hx => nomatch hx⟩
  | s :: t, ls, M, h => by
    unfold postsP at h
    split at h
    · split at h
      · rename_i hn hk
        split at h
        · cases h
        · rename_i x hx
          obtain ⟨⟨ls', M'⟩, hr, e⟩ := Option.map_eq_some_iff.1 h
          obtain ⟨rfl, rfl⟩ := Prod.mk.inj e
          obtain ⟨e1, e2⟩ := posts_is hr
          have ht := take_is (first := ⟨#[80, 79, 83, 84]⟩) (n := 4) (L := s :: t) (ws := (splitOn s 32).drop 1) (t := t) (by simp only [takeW]; exact if_pos hk)
          obtain ⟨a, b, d, e3⟩ := threeS (by have := ht.2; omega : ((splitOn s 32).drop 1).length = 3)
          rw [e3] at hx ht
          simp only [lineP] at hx
          split at hx
          · cases hx
          · rename_i u hu
            split at hx
            · cases hx
            · rename_i v hv
              obtain rfl := Option.some.inj hx
              have hlt := uintP_lt hu
              obtain ⟨ea, eb⟩ := amtP_is hv
              have es := uintP_is hu
              refine ⟨?_, ?_⟩
              · rw [ht.1, List.map_cons, e1]
                show _ = postL _ :: (ls'.map postL ++ M')
                unfold postL
                rw [es, ea]
                rfl
              · intro x hx
                rcases List.mem_cons.1 hx with rfl | hx
                · exact ⟨⟨Int.natCast_nonneg _, by show (u : Int) < _; omega⟩, eb⟩
                · exact e2 x hx
      · cases h
    · obtain ⟨rfl, rfl⟩ := Prod.mk.inj (Option.some.inj h)
      exact ⟨rfl, fun x hx => nomatch hx⟩
theorem getD_last (L : List ByteArray) (x : ByteArray) : (L ++ [x]).getD L.length ⟨#[]⟩ = x := by
  rw [List.getD_eq_getElem?_getD, List.getElem?_append_right (Nat.le_refl _)]
  simp
theorem parse_flat (k : Nat) {text : ByteArray} {L : List ByteArray} {x : ByteArray} (h : splitOn text 10 = L ++ [x]) : parseR k text = if x = ⟨#[]⟩ then slipR k L else some none := by
  unfold parseR
  rw [h, List.length_append, List.length_singleton, Nat.add_sub_cancel, getD_last, List.take_left']
  rfl
theorem line_noC {ws : List ByteArray} (h : ∀ w ∈ ws, noC 10 w) : noC 10 (jn ws) := by
  show ∀ b ∈ gl 32 ws, b ≠ 10
  induction ws with
  | nil => intro b hb; cases hb
  | cons w t ih =>
    cases t with
    | nil =>
      rw [gl_one]
      exact h w (List.mem_cons_self ..)
    | cons v t =>
      rw [gl_cons]
      intro b hb
      rcases List.mem_append.1 hb with hb | hb
      · exact h w (List.mem_cons_self ..) b hb
      · rcases List.mem_cons.1 hb with rfl | hb
        · decide
        · exact ih (fun x hx => h x (List.mem_cons_of_mem _ hx)) b hb
theorem textL_noC {who asset : ByteArray} {day op : Int} {ls : List Line_} {cl : Int} (h : SOk who asset day op ls cl) : ∀ s ∈ textL who asset day op ls cl, noC 10 s := by
  intro s hs
  unfold textL at hs
  rcases List.mem_cons.1 hs with rfl | hs
  · refine line_noC fun w hw => ?_
    simp only [List.mem_cons, List.not_mem_nil, or_false] at hw
    rcases hw with rfl | rfl | rfl | rfl
    · exact (lit_noC _ (by simp)).2
    · exact h.who.2
    · exact h.asset.2
    · exact (dec_noC h.day.1 h.day.2).2
  rcases List.mem_cons.1 hs with rfl | hs
  · refine line_noC fun w hw => ?_
    simp only [List.mem_cons, List.not_mem_nil, or_false] at hw
    rcases hw with rfl | rfl
    · exact (lit_noC _ (by simp)).2
    · exact (amt_noC h.op).2
  rcases List.mem_append.1 hs with hs | hs
  · obtain ⟨x, hx, rfl⟩ := List.mem_map.1 hs
    obtain ⟨h1, h2, h3⟩ := h.ls x hx
    refine line_noC fun w hw => ?_
    simp only [List.mem_cons, List.not_mem_nil, or_false] at hw
    rcases hw with rfl | rfl | rfl | rfl
    · exact (lit_noC _ (by simp)).2
    · exact (dec_noC h2.1 h2.2).2
    · exact h1.2
    · exact (amt_noC h3).2
  · rw [List.mem_singleton.1 hs]
    refine line_noC fun w hw => ?_
    simp only [List.mem_cons, List.not_mem_nil, or_false] at hw
    rcases hw with rfl | rfl
    · exact (lit_noC _ (by simp)).2
    · exact (amt_noC h.cl).2
def sText (who asset : ByteArray) (day op : Int) (ls : List Line_) (cl : Int) : ByteArray := ⟨(textOf who asset day op ls cl).toArray⟩
theorem split_text {who asset : ByteArray} {day op : Int} {ls : List Line_} {cl : Int} (h : SOk who asset day op ls cl) : splitOn (sText who asset day op ls cl) 10 = textL who asset day op ls cl ++ [⟨#[]⟩] := by
  unfold splitOn
  have e : (sText who asset day op ls cl).data.toList = flat (textL who asset day op ls cl) := (text_flat ..)
  rw [e, cut_flat _ (textL_noC h), List.map_append, unmap]
  rfl
/-- The first two lines of a statement. -/
theorem take_head {who asset : ByteArray} {day op : Int} {ls : List Line_} {cl : Int} (h : SOk who asset day op ls cl) (M : List ByteArray) : takeW ⟨#[83, 84, 65, 84, 69, 77, 69, 78, 84]⟩ 4 (jn [kSt, who, asset, decOf day] :: M) = some ([who, asset, decOf day], M) :=
  take_jn M 4 rfl (lit_noC kSt (by simp)).1 (by
    intro w hw
    simp only [List.mem_cons, List.not_mem_nil, or_false] at hw
    rcases hw with rfl | rfl | rfl
    · exact h.who.1
    · exact h.asset.1
    · exact (dec_noC h.day.1 h.day.2).1)
theorem take_open {a : Int} (h : in64 a) (M : List ByteArray) : takeW ⟨#[79, 80, 69, 78]⟩ 2 (jn [kOp, amtOf a] :: M) = some ([amtOf a], M) :=
  take_jn M 2 rfl (lit_noC kOp (by simp)).1 (by
    intro w hw
    rw [List.mem_singleton.1 hw]
    exact (amt_noC h).1)
theorem take_close {a : Int} (h : in64 a) (M : List ByteArray) : takeW ⟨#[67, 76, 79, 83, 69]⟩ 2 (jn [kCl, amtOf a] :: M) = some ([amtOf a], M) :=
  take_jn M 2 rfl (lit_noC kCl (by simp)).1 (by
    intro w hw
    rw [List.mem_singleton.1 hw]
    exact (amt_noC h).1)
/-- A statement's lines are that statement. -/
theorem slip_back (k : Nat) {who asset : ByteArray} {day op : Int} {ls : List Line_} {cl : Int} (h : SOk who asset day op ls cl) :
    slipR k (textL who asset day op ls cl) = (slip_Check.f k who asset day op ls cl).map fun c => if c = 0 then some (who, asset, day, op, ls, cl) else none := by
  unfold slipR textL
  rw [take_head h]
  simp only [List.getD_cons_succ, List.getD_cons_zero]
  rw [uintP_dec h.day.1 h.day.2]
  simp only
  rw [take_open h.op]
  simp only [List.getD_cons_zero]
  rw [amtP_amt h.op]
  simp only
  rw [posts_back [jn [kCl, amtOf cl]] (prefix_close cl) ls h.ls]
  simp only
  rw [take_close h.cl]
  simp only [List.getD_cons_zero]
  rw [amtP_amt h.cl]
  simp only [if_true]
  rw [Int.toNat_of_nonneg h.day.1]
theorem parse_back (k : Nat) {who asset : ByteArray} {day op : Int} {ls : List Line_} {cl : Int} (h : SOk who asset day op ls cl) :
    parseR k (sText who asset day op ls cl) = (slip_Check.f k who asset day op ls cl).map fun c => if c = 0 then some (who, asset, day, op, ls, cl) else none := by
  rw [parse_flat k (split_text h), if_pos rfl, slip_back k h]
/-- Some of a statement's lines, but not all, are none. -/
theorem slip_short (k : Nat) {who asset : ByteArray} {day op : Int} {ls : List Line_} {cl : Int} (h : SOk who asset day op ls cl) (m : Nat) (hm : m < (textL who asset day op ls cl).length) : slipR k ((textL who asset day op ls cl).take m) = some none := by
  unfold slipR textL
  match m, hm with
  | 0, _ => rfl
  | 1, _ =>
    rw [List.take_succ_cons, List.take_zero, take_head h]
    simp only [List.getD_cons_succ, List.getD_cons_zero]
    rw [uintP_dec h.day.1 h.day.2]
    rfl
  | m + 2, hm =>
    rw [List.take_succ_cons, List.take_succ_cons, take_head h]
    simp only [List.getD_cons_succ, List.getD_cons_zero]
    rw [uintP_dec h.day.1 h.day.2]
    simp only
    rw [take_open h.op]
    simp only [List.getD_cons_zero]
    rw [amtP_amt h.op]
    simp only
    have hl : m ≤ (ls.map postL).length := by
      unfold textL at hm
      simp only [List.length_cons, List.length_append, List.length_map, List.length_nil] at hm ⊢
      omega
    have e : (ls.map postL ++ [jn [kCl, amtOf cl]]).take m = (ls.take m).map postL ++ [] := by
      rw [List.take_append_of_le_length hl, List.append_nil, List.map_take]
    rw [e, posts_back [] rfl (ls.take m) (fun x hx => h.ls x (List.mem_of_mem_take hx))]
    rfl
/-- A statement's text that is cut is none. -/
theorem parse_cut (k : Nat) {who asset : ByteArray} {day op : Int} {ls : List Line_} {cl : Int} (h : SOk who asset day op ls cl) (s : ByteArray) (j : Nat) (hj : j < (textOf who asset day op ls cl).length) (hs : s.data.toList = (textOf who asset day op ls cl).take j) : parseR k s = some none := by
  rw [text_flat] at hj hs
  obtain ⟨m, x, hm, e⟩ := cut_flat_take _ (textL_noC h) j hj
  have e2 : splitOn s 10 = (textL who asset day op ls cl).take m ++ [⟨x.toArray⟩] := by
    unfold splitOn
    rw [hs, e, List.map_append, unmap]
    rfl
  rw [parse_flat k e2]
  split
  · exact slip_short k h m hm
  · rfl
/-- What is read is its text. -/
theorem slip_is {k : Nat} {L : List ByteArray} {r : Slip6} (h : slipR k L = some (some r)) :
    L = textL r.1 r.2.1 r.2.2.1 r.2.2.2.1 r.2.2.2.2.1 r.2.2.2.2.2 ∧ slip_Check.f k r.1 r.2.1 r.2.2.1 r.2.2.2.1 r.2.2.2.2.1 r.2.2.2.2.2 = some 0 ∧ (0 ≤ r.2.2.1 ∧ r.2.2.1 < 18446744073709551616) ∧ in64 r.2.2.2.1 ∧ in64 r.2.2.2.2.2 ∧ ∀ x ∈ r.2.2.2.2.1, (0 ≤ x.f0 ∧ x.f0 < 18446744073709551616) ∧ in64 x.f2 := by
  unfold slipR at h
  split at h
  · cases Option.some.inj h
  rename_i X hX
  split at h
  · cases Option.some.inj h
  rename_i day hday
  split at h
  · cases Option.some.inj h
  rename_i Y hY
  split at h
  · cases Option.some.inj h
  rename_i op hop
  split at h
  · cases Option.some.inj h
  rename_i Z hZ
  split at h
  · cases Option.some.inj h
  rename_i V hV
  split at h
  · cases Option.some.inj h
  rename_i cl hcl
  split at h
  case isFalse => cases Option.some.inj h
  rename_i hv
  obtain ⟨c, hc, e⟩ := Option.map_eq_some_iff.1 h
  split at e
  case isFalse => cases e
  rename_i hc0
  subst hc0
  obtain rfl := Option.some.inj e
  obtain ⟨X1, X2⟩ := X
  obtain ⟨Y1, Y2⟩ := Y
  obtain ⟨Z1, Z2⟩ := Z
  obtain ⟨V1, V2⟩ := V
  obtain ⟨x1, x2⟩ := take_is hX
  obtain ⟨y1, y2⟩ := take_is hY
  obtain ⟨z1, z2⟩ := posts_is hZ
  obtain ⟨v1, v2⟩ := take_is hV
  obtain ⟨a, b, d, rfl⟩ := threeS (by omega : X1.length = 3)
  obtain ⟨o, rfl⟩ := oneS (by omega : Y1.length = 1)
  obtain ⟨q, rfl⟩ := oneS (by omega : V1.length = 1)
  simp only [List.getD_cons_succ, List.getD_cons_zero] at hday hop hcl hc hv ⊢
  subst hv
  have hlt := uintP_lt hday
  have es := uintP_is hday
  obtain ⟨eo, io⟩ := amtP_is hop
  obtain ⟨ec, ic⟩ := amtP_is hcl
  refine ⟨?_, hc, ⟨Int.natCast_nonneg _, by show (day : Int) < _; omega⟩, io, ic, z2⟩
  rw [x1]
  simp only at y1 z1 v1
  rw [y1, z1, v1]
  unfold textL
  rw [← es, ← eo, ← ec]
  rfl
theorem parse_is {k : Nat} {text : ByteArray} {r : Slip6} (h : parseR k text = some (some r)) :
    text.data.toList = textOf r.1 r.2.1 r.2.2.1 r.2.2.2.1 r.2.2.2.2.1 r.2.2.2.2.2 ∧ slip_Check.f k r.1 r.2.1 r.2.2.1 r.2.2.2.1 r.2.2.2.2.1 r.2.2.2.2.2 = some 0 ∧ (0 ≤ r.2.2.1 ∧ r.2.2.1 < 18446744073709551616) ∧ in64 r.2.2.2.1 ∧ in64 r.2.2.2.2.2 ∧ ∀ x ∈ r.2.2.2.2.1, (0 ≤ x.f0 ∧ x.f0 < 18446744073709551616) ∧ in64 x.f2 := by
  have hp := split_pos text 10
  obtain ⟨L, x, e⟩ : ∃ L x, splitOn text 10 = L ++ [x] := by
    rcases List.eq_nil_or_concat (splitOn text 10) with h0 | ⟨L, x, e⟩
    · rw [h0] at hp
      simp at hp
    · exact ⟨L, x, by rw [e]; simp⟩
  rw [parse_flat k e] at h
  split at h
  case isFalse => cases Option.some.inj h
  rename_i hx
  subst hx
  obtain ⟨e1, e2⟩ := slip_is h
  refine ⟨?_, e2⟩
  rw [text_flat, ← e1, ← gl_flat, ← e, gl_split]
end Go.Proofs.YtnngbnhbmgdkoaaGreatDoor.E
namespace Go.Proofs.YtnngbnhbmgdkoaaGreatDoor.E
open Go.RowKit Go.Proofs.YtnngbnhbmgdkoaaGreatDoor.P Go.Proofs.YtnngbnhbmgdkoaaGreatDoorW.PrintWords Go.Proofs.YtnngbnhbmgdkoaaGreatDoorW.PrintLast
theorem ev_one {α : Type} {g : Nat → Option α} {r s : α} (h1 : Ev g r) (h2 : Ev g s) : r = s := by
  obtain ⟨k1, e1⟩ := h1
  obtain ⟨k2, e2⟩ := h2
  exact Option.some.inj ((e1 (k1 + k2) (by omega)).symm.trans (e2 (k1 + k2) (by omega)))
theorem part_get {p : UInt8 → Bool} {m : Int} {s : ByteArray} (h : isPart p m s = true) : s.data.toList.all p = true ∧ (s.size : Int) ≤ m := by
  unfold isPart at h
  rw [Bool.and_eq_true, Bool.and_eq_true, decide_eq_true_eq, decide_eq_true_eq] at h
  exact ⟨h.1, h.2.2⟩
theorem sign_not : ∀ c : UInt8, isSign c = true → c ≠ 32 ∧ c ≠ 10 := fun c => all_u8 (p := fun c => isSign c = true → c ≠ 32 ∧ c ≠ 10) (by decide +kernel) c
theorem up_sign : ∀ c : UInt8, isUp c = true → isSign c = true := fun c => all_u8 (p := fun c => isUp c = true → isSign c = true) (by decide +kernel) c
theorem lowdig_sign : ∀ c : UInt8, (isLow c || isDig c) = true → isSign c = true := fun c => all_u8 (p := fun c => (isLow c || isDig c) = true → isSign c = true) (by decide +kernel) c
theorem low_sign : ∀ c : UInt8, isLow c = true → isSign c = true := fun c => all_u8 (p := fun c => isLow c = true → isSign c = true) (by decide +kernel) c
theorem noC_sign {s : ByteArray} (h : s.data.toList.all isSign = true) : noC 32 s ∧ noC 10 s :=
  ⟨fun b hb => (sign_not b (List.all_eq_true.1 h b hb)).1, fun b hb => (sign_not b (List.all_eq_true.1 h b hb)).2⟩
theorem who_get {s : ByteArray} (h : isWho s = true) : s.data.toList.all isSign = true ∧ s.size ≤ 8 := by
  unfold isWho at h
  cases hs : s.data.toList with
  | nil => rw [hs] at h; cases h
  | cons c t =>
    rw [hs] at h
    simp only [Bool.and_eq_true, decide_eq_true_eq] at h
    have hl := size_len s
    rw [hs] at hl
    have h1 := h.1.1
    have h2 := h.1.2
    have h3 := h.2
    refine ⟨?_, by simp only [List.length_cons] at hl; omega⟩
    rw [List.all_cons, low_sign c h1, List.all_eq_true.2 (fun b hb => lowdig_sign b (List.all_eq_true.1 h2 b hb))]
    rfl
theorem up_get {s : ByteArray} (h : isPart isUp 6 s = true) : s.data.toList.all isSign = true ∧ s.size ≤ 6 := by
  obtain ⟨h1, h2⟩ := part_get h
  exact ⟨List.all_eq_true.2 (fun b hb => up_sign b (List.all_eq_true.1 h1 b hb)), by omega⟩
def rowsIn64 (ls : List Row_) : Prop := ∀ x ∈ ls, (0 ≤ x.f0 ∧ x.f0 < 18446744073709551616) ∧ in64 x.f2
theorem slip_ok {who asset : ByteArray} {day op : Int} {ls : List Row_} {cl : Int} (h : slipB who asset op ls cl = true) (hd : 0 ≤ day ∧ day < 18446744073709551616) (ho : in64 op) (hc : in64 cl) (hr : rowsIn64 ls) : SOk who asset day op ls cl where
  who := noC_sign (who_get (slip_get h).1).1
  asset := noC_sign (up_get (slip_get h).2.1).1
  day := hd
  op := ho
  ls := fun x hx => ⟨noC_sign (part_get ((slip_get h).2.2.2.2 x hx).1).1, hr x hx⟩
  cl := hc
theorem slip_in {who asset : ByteArray} {day op : Int} {ls : List Row_} {cl : Int} (h : slipB who asset op ls cl = true) (hd : 0 ≤ day ∧ day < 18446744073709551616) (ho : in64 op) (hc : in64 cl) (hr : rowsIn64 ls) : TextIn who asset day op ls cl := by
  obtain ⟨h1, h2, h3, _, h5⟩ := slip_get h
  refine ⟨by have := (who_get h1).2; omega, by have := (up_get h2).2; omega, hd.1, hd.2, ho, hc, h3, fun x hx => ⟨(hr x hx).1.1, (hr x hx).1.2, ?_, (hr x hx).2⟩⟩
  have := (part_get (h5 x hx).1).2
  omega
theorem text_ev (who asset : ByteArray) (day op : Int) (ls : List Row_) (cl : Int) (hw : who.size ≤ 140737488351232) (ha : asset.size ≤ 140737488351232) (hd : 0 ≤ day ∧ day < 18446744073709551616) (ho : in64 op) (hc : in64 cl) (hr : rowsIn64 ls) (hs : ∀ x ∈ ls, x.f1.size ≤ 140737488351232) (hl : ls.length ≤ 1000000) :
    Ev (fun k => slip_Text.f k who asset day op ls cl) (if slipB who asset op ls cl = true then (sText who asset day op ls cl, 0) else (⟨#[]⟩, 190)) := by
  unfold slip_Text.f
  refine ev_call (chk_ev who asset day op ls cl hw ha ho hc (fun x hx => (hr x hx).2) hs hl) ?_
  cases hb : slipB who asset op ls cl with
  | true =>
    exact ev_pos rfl (ev_pos (slip_in hb hd ho hc hr) (ev_some rfl))
  | false => exact ev_neg (by decide) (ev_some rfl)
/-- A read statement, that may be, is one that fits. -/
structure Read6 (text : ByteArray) (r : Slip6) : Prop where
  text : text = sText r.1 r.2.1 r.2.2.1 r.2.2.2.1 r.2.2.2.2.1 r.2.2.2.2.2
  day : 0 ≤ r.2.2.1 ∧ r.2.2.1 < 18446744073709551616
  op : in64 r.2.2.2.1
  cl : in64 r.2.2.2.2.2
  rows : rowsIn64 r.2.2.2.2.1
theorem slipR_some {L : List ByteArray} (hL : L.length ≤ 1000000) (hs : ∀ s ∈ L, s.size ≤ 1000000) : ∃ R, Ev (fun k => slipR k L) R := by
  have now : ∀ {g : Nat → Option (Option Slip6)}, (∀ k, g k = some none) → ∃ R, Ev g R := fun h => ⟨none, 0, fun k _ => h k⟩
  cases h1 : takeW ⟨#[83, 84, 65, 84, 69, 77, 69, 78, 84]⟩ 4 L with
  | none => exact now (fun k => by simp only [slipR, h1])
  | some x =>
    cases h2 : uintP (x.1.getD 2 ⟨#[]⟩) with
    | none => exact now (fun k => by simp only [slipR, h1, h2])
    | some day =>
      cases h3 : takeW ⟨#[79, 80, 69, 78]⟩ 2 x.2 with
      | none => exact now (fun k => by simp only [slipR, h1, h2, h3])
      | some y =>
        cases h4 : amtP (y.1.getD 0 ⟨#[]⟩) with
        | none => exact now (fun k => by simp only [slipR, h1, h2, h3, h4])
        | some op =>
          cases h5 : postsP y.2 with
          | none => exact now (fun k => by simp only [slipR, h1, h2, h3, h4, h5])
          | some z =>
            cases h6 : takeW ⟨#[67, 76, 79, 83, 69]⟩ 2 z.2 with
            | none => exact now (fun k => by simp only [slipR, h1, h2, h3, h4, h5, h6])
            | some v =>
              cases h7 : amtP (v.1.getD 0 ⟨#[]⟩) with
              | none => exact now (fun k => by simp only [slipR, h1, h2, h3, h4, h5, h6, h7])
              | some cl =>
                by_cases h8 : v.2 = []
                · have e : ∀ k, slipR k L = (slip_Check.f k (x.1.getD 0 ⟨#[]⟩) (x.1.getD 1 ⟨#[]⟩) (day : Int) op z.1 cl).map fun c => if c = 0 then some (x.1.getD 0 ⟨#[]⟩, x.1.getD 1 ⟨#[]⟩, (day : Int), op, z.1, cl) else none := fun k => by
                    simp only [slipR, h1, h2, h3, h4, h5, h6, h7]
                    rw [if_pos h8]
                  obtain ⟨X1, X2⟩ := x
                  obtain ⟨Y1, Y2⟩ := y
                  obtain ⟨Z1, Z2⟩ := z
                  obtain ⟨x1, x2⟩ := take_is h1
                  obtain ⟨y1, y2⟩ := take_is h3
                  obtain ⟨z1, z2⟩ := posts_is h5
                  obtain ⟨a, b, d, rfl⟩ := threeS (by omega : X1.length = 3)
                  simp only [List.getD_cons_succ, List.getD_cons_zero] at e
                  simp only at y1 z1
                  have hX2 : X2.length ≤ L.length := by rw [x1]; simp
                  have hY2 : Y2.length ≤ X2.length := by rw [y1]; simp
                  have hZ1 : Z1.length ≤ Y2.length := by rw [z1]; simp
                  have hm1 : jn [⟨#[83, 84, 65, 84, 69, 77, 69, 78, 84]⟩, a, b, d] ∈ L := by rw [x1]; exact List.mem_cons_self ..
                  have jsz := hs _ hm1
                  have hj4 : (jn [⟨#[83, 84, 65, 84, 69, 77, 69, 78, 84]⟩, a, b, d]).size = (⟨#[83, 84, 65, 84, 69, 77, 69, 78, 84]⟩ : ByteArray).size + a.size + b.size + d.size + 3 := join4_size ..
                  have hrow : ∀ q ∈ Z1, q.f1.size ≤ 140737488351232 := fun q hq => by
                    have hmem : postL q ∈ L := by
                      rw [x1, y1, z1]
                      exact List.mem_cons_of_mem _ (List.mem_cons_of_mem _ (List.mem_append_left _ (List.mem_map.2 ⟨q, hq, rfl⟩)))
                    have h1 := hs _ hmem
                    have h2 : (postL q).size = kPo.size + (decOf q.f0).size + q.f1.size + (amtOf q.f2).size + 3 := join4_size ..
                    omega
                  have hC := chk_ev a b (day : Int) op Z1 cl (by omega) (by omega) (amtP_is h4).2 (amtP_is h7).2 (fun q hq => (z2 q hq).2) hrow (by omega)
                  refine ⟨if slipC (slipB a b op Z1 cl) = 0 then some (a, b, (day : Int), op, Z1, cl) else none, ?_⟩
                  obtain ⟨K, hK⟩ := hC
                  exact ⟨K, fun k hk => by
                    have h9 : slip_Check.f k a b (day : Int) op Z1 cl = some (slipC (slipB a b op Z1 cl)) := hK k hk
                    show slipR k L = _
                    rw [e k, h9]
                    rfl⟩
                · exact now (fun k => by simp only [slipR, h1, h2, h3, h4, h5, h6, h7]; rw [if_neg h8])
theorem parse_ev (text : ByteArray) (ht : text.size ≤ 900000) : ∃ R, Ev (fun k => parseR k text) R ∧ ∀ r, R = some r → Read6 text r ∧ ∃ k, slip_Check.f k r.1 r.2.1 r.2.2.1 r.2.2.2.1 r.2.2.2.2.1 r.2.2.2.2.2 = some 0 := by
  have hlen : (splitOn text 10).length ≤ 900002 := by
    rw [length_splitOn]
    have h1 := Lib.count_le text.data.toList [10]
    have h2 := size_len text
    show Lib.count text.data.toList [10] + 1 ≤ _
    omega
  have hsz : ∀ x ∈ splitOn text 10, x.size ≤ 1000000 := fun x hx => Nat.le_trans (splitS_sizes hx) (Nat.le_trans ht (by decide))
  have key : ∃ R, Ev (fun k => parseR k text) R := by
    unfold parseR
    by_cases h : (splitOn text 10).getD ((splitOn text 10).length - 1) ⟨#[]⟩ = ⟨#[]⟩
    · obtain ⟨R, hR⟩ := slipR_some (L := (splitOn text 10).take ((splitOn text 10).length - 1)) (by rw [List.length_take]; omega) (fun s hs => hsz s (List.mem_of_mem_take hs))
      exact ⟨R, ev_pos h hR⟩
    · exact ⟨none, ev_neg h (ev_some rfl)⟩
  obtain ⟨R, hR⟩ := key
  refine ⟨R, hR, fun r hr => ?_⟩
  subst hr
  obtain ⟨k, hk⟩ := Ev.rounds hR
  obtain ⟨h1, h2, h3, h4, h5, h6⟩ := parse_is hk
  exact ⟨⟨text_ext h1, h3, h4, h5, h6⟩, k, h2⟩
theorem flat_mem : ∀ {L : List ByteArray} {s : ByteArray}, s ∈ L → s.size + 1 ≤ (flat L).length
  | x :: L, s, h => by
    have hx := size_len x
    rw [flat_cons, List.length_append, List.length_cons]
    rcases List.mem_cons.1 h with rfl | h
    · omega
    · have := flat_mem h
      omega
theorem flat_len : ∀ L : List ByteArray, L.length ≤ (flat L).length
  | [] => Nat.zero_le _
  | x :: L => by
    have := flat_len L
    rw [flat_cons, List.length_append, List.length_cons, List.length_cons]
    omega
/-- What is read fits, and may be. -/
theorem read_ok {text who asset : ByteArray} {day op : Int} {ls : List Row_} {cl : Int} (h : Read6 text (who, asset, day, op, ls, cl)) (ht : text.size ≤ 900000) {k : Nat} (hk : slip_Check.f k who asset day op ls cl = some 0) :
    slipB who asset op ls cl = true ∧ Ev (fun k => slip_Text.f k who asset day op ls cl) (text, 0) := by
  obtain ⟨h1, h2, h3, h4, h5⟩ := h
  simp only at h1 h2 h3 h4 h5
  have hl : (flat (textL who asset day op ls cl)).length = text.size := by
    rw [← text_flat, ← size_len text, h1]
    rfl
  have m1 : jn [kSt, who, asset, decOf day] ∈ textL who asset day op ls cl := by unfold textL; exact List.mem_cons_self ..
  have j1 : (jn [kSt, who, asset, decOf day]).size = kSt.size + who.size + asset.size + (decOf day).size + 3 := join4_size ..
  have l1 := flat_mem m1
  have l2 := flat_len (textL who asset day op ls cl)
  have l3 : ls.length ≤ (textL who asset day op ls cl).length := by unfold textL; simp; omega
  have hrow : ∀ q ∈ ls, q.f1.size ≤ 140737488351232 := fun q hq => by
    have hm : postL q ∈ textL who asset day op ls cl := by
      unfold textL
      exact List.mem_cons_of_mem _ (List.mem_cons_of_mem _ (List.mem_append_left _ (List.mem_map.2 ⟨q, hq, rfl⟩)))
    have h1 := flat_mem hm
    have h2 : (postL q).size = kPo.size + (decOf q.f0).size + q.f1.size + (amtOf q.f2).size + 3 := join4_size ..
    omega
  have hC := chk_ev who asset day op ls cl (by omega) (by omega) h3 h4 (fun q hq => (h5 q hq).2) hrow (by omega)
  have hb : slipB who asset op ls cl = true := by
    have := ev_one hC (Ev.of (slip_Check.mono who asset day op ls cl) hk)
    cases hb : slipB who asset op ls cl with
    | true => rfl
    | false => rw [hb] at this; cases this
  refine ⟨hb, ?_⟩
  have hT := text_ev who asset day op ls cl (by omega) (by omega) h2 h3 h4 h5 hrow (by omega)
  rw [if_pos hb, ← h1] at hT
  exact hT
theorem text_length {who asset : ByteArray} {day op : Int} {ls : List Row_} {cl : Int} (h : TextIn who asset day op ls cl) : (textOf who asset day op ls cl).length ≤ 10000 + 3000 * ls.length := by
  obtain ⟨h1, h2, h3, h4, h5, h6, h7, h8⟩ := h
  have a1 := head_length h1 h2 h3 h4 h5
  have a2 := posts_length ls h8
  have a3 := amtOf_size h6
  unfold textOf
  rw [List.length_append, List.length_append, lineOf_length, join2_size]
  have : (⟨#[67, 76, 79, 83, 69]⟩ : ByteArray).size = 5 := rfl
  omega
end Go.Proofs.YtnngbnhbmgdkoaaGreatDoor.E
