/- What all who are named got of an asset sums to nothing. -/
import Derived.Test.YtjlifcbddednaaaDoorLegs12
import Derived.Test.YtjlifcbddednaaaDoorFewJ
namespace Go.Proofs.YtjlifcbddednaaaDoor.E
open Go.RowKit Go.Proofs.YtjlifcbddednaaaDoor.P Go.Proofs.YtjlifcbddednaaaDoorW.PrintWords Go.Proofs.YtjlifcbddednaaaDoorW.PrintLast
/-- Entries that may be, of few legs. -/
def keepB (x : Ent_) : Bool := decide (x.f3.length ≤ 50) && fewB x.f2 x.f3 && checkB x.f2 x.f3
def addName (ws : List ByteArray) (n : ByteArray) : List ByteArray := if ws.any (fun w => decide (w = n)) = true then ws else ws ++ [n]
def addLegs (ws : List ByteArray) (l : List Leg_) : List ByteArray := l.foldl (fun ws g => addName ws g.f0) ws
def whoOf (l : List Ent_) : List ByteArray := l.foldl (fun ws x => addLegs ws x.f3) []
theorem addName_mem (ws : List ByteArray) (n : ByteArray) : ∀ x, x ∈ addName ws n ↔ x ∈ ws ∨ x = n := by
  intro x
  unfold addName
  split
  · rename_i h
    obtain ⟨w, hw, e⟩ := List.any_eq_true.1 h
    have e := of_decide_eq_true e
    exact ⟨.inl, fun h => h.elim id (fun h => by rw [h, ← e]; exact hw)⟩
  · simp
theorem addName_nodup {ws : List ByteArray} (n : ByteArray) (h : ws.Nodup) : (addName ws n).Nodup := by
  unfold addName
  split
  · exact h
  · rename_i hn
    rw [List.nodup_append]
    refine ⟨h, by simp, fun x hx y hy e => ?_⟩
    rw [List.mem_singleton.1 hy] at e
    exact hn (List.any_eq_true.2 ⟨x, hx, decide_eq_true e⟩)
theorem addLegs_mem : ∀ (l : List Leg_) (ws : List ByteArray) (x : ByteArray), x ∈ addLegs ws l ↔ x ∈ ws ∨ ∃ g ∈ l, g.f0 = x
  | [], ws, x => by simp [addLegs]
  | g :: t, ws, x => by
    have ih := addLegs_mem t (addName ws g.f0) x
    unfold addLegs at *
    rw [List.foldl_cons, ih, addName_mem]
    constructor
    · rintro ((h | h) | ⟨g2, h1, h2⟩)
      · exact .inl h
      · exact .inr ⟨g, List.mem_cons_self .., h.symm⟩
      · exact .inr ⟨g2, List.mem_cons_of_mem _ h1, h2⟩
    · rintro (h | ⟨g2, h1, h2⟩)
      · exact .inl (.inl h)
      · rcases List.mem_cons.1 h1 with rfl | h1
        · exact .inl (.inr h2.symm)
        · exact .inr ⟨g2, h1, h2⟩
theorem addLegs_nodup : ∀ (l : List Leg_) {ws : List ByteArray}, ws.Nodup → (addLegs ws l).Nodup
  | [], _, h => h
  | g :: t, _, h => addLegs_nodup t (addName_nodup g.f0 h)
theorem who_from : ∀ (l : List Ent_) (ws : List ByteArray), ws.Nodup → (l.foldl (fun ws x => addLegs ws x.f3) ws).Nodup ∧ ∀ x, x ∈ l.foldl (fun ws x => addLegs ws x.f3) ws ↔ x ∈ ws ∨ ∃ e ∈ l, ∃ g ∈ e.f3, g.f0 = x
  | [], ws, h => ⟨h, fun x => by simp⟩
  | e :: t, ws, h => by
    obtain ⟨h1, h2⟩ := who_from t (addLegs ws e.f3) (addLegs_nodup e.f3 h)
    refine ⟨h1, fun x => ?_⟩
    rw [List.foldl_cons, h2, addLegs_mem]
    constructor
    · rintro ((h | ⟨g, hg, e2⟩) | ⟨e3, h3, g, hg, e2⟩)
      · exact .inl h
      · exact .inr ⟨e, List.mem_cons_self .., g, hg, e2⟩
      · exact .inr ⟨e3, List.mem_cons_of_mem _ h3, g, hg, e2⟩
    · rintro (h | ⟨e3, h3, g, hg, e2⟩)
      · exact .inl (.inl h)
      · rcases List.mem_cons.1 h3 with rfl | h3
        · exact .inl (.inr ⟨g, hg, e2⟩)
        · exact .inr ⟨e3, h3, g, hg, e2⟩
theorem who_facts (l : List Ent_) : (whoOf l).Nodup ∧ ∀ e ∈ l, ∀ g ∈ e.f3, g.f0 ∈ whoOf l := by
  obtain ⟨h1, h2⟩ := who_from l [] List.nodup_nil
  exact ⟨h1, fun e he g hg => (h2 g.f0).2 (.inr ⟨e, he, g, hg, rfl⟩)⟩
/-- Days that follow one another. -/
theorem got_split (l : List Ent_) (who asset : ByteArray) (a b c : Int) (h1 : a ≤ b) (h2 : b ≤ c) : sumI (gotOf l who asset a c) = sumI (gotOf l who asset a b) + sumI (gotOf l who asset b c) := by
  induction l with
  | nil => rfl
  | cons x t ih =>
    simp only [gotOf, sumI_app, ih]
    by_cases e1 : a ≤ x.f1 ∧ x.f1 < b
    · rw [if_pos e1, if_pos (by omega), if_neg (by omega : ¬ (b ≤ x.f1 ∧ x.f1 < c))]
      simp only [sumI]
      omega
    · by_cases e2 : b ≤ x.f1 ∧ x.f1 < c
      · rw [if_neg e1, if_pos e2, if_pos (by omega)]
        simp only [sumI]
        omega
      · rw [if_neg e1, if_neg e2, if_neg (by omega)]
        simp only [sumI]
        omega
/-- The sum over names of a number each. -/
def sumW (f : ByteArray → Int) (ws : List ByteArray) : Int := sumI (ws.map f)
theorem sumW_zero (ws : List ByteArray) (f : ByteArray → Int) (h : ∀ w ∈ ws, f w = 0) : sumW f ws = 0 := by
  induction ws with
  | nil => rfl
  | cons w t ih =>
    show f w + sumI (t.map f) = 0
    have h1 := h w (List.mem_cons_self ..)
    have h2 : sumI (t.map f) = 0 := ih (fun x hx => h x (List.mem_cons_of_mem _ hx))
    omega
theorem sumW_add (ws : List ByteArray) (f g : ByteArray → Int) : sumW (fun w => f w + g w) ws = sumW f ws + sumW g ws := by
  induction ws with
  | nil => rfl
  | cons w t ih =>
    show f w + g w + sumI (t.map (fun w => f w + g w)) = f w + sumI (t.map f) + (g w + sumI (t.map g))
    have : sumI (t.map (fun w => f w + g w)) = sumI (t.map f) + sumI (t.map g) := ih
    omega
theorem sumW_one {ws : List ByteArray} (hn : ws.Nodup) (n : ByteArray) (hm : n ∈ ws) (x : Int) : sumW (fun w => if n = w then x else 0) ws = x := by
  induction ws with
  | nil => cases hm
  | cons w t ih =>
    obtain ⟨h1, h2⟩ := List.nodup_cons.1 hn
    show (if n = w then x else 0) + sumI (t.map (fun w => if n = w then x else 0)) = x
    by_cases e : n = w
    · rw [if_pos e]
      have : sumI (t.map (fun w => if n = w then x else 0)) = 0 := sumW_zero t _ (fun v hv => if_neg (fun e2 => h1 (by rw [← e, e2]; exact hv)))
      omega
    · rw [if_neg e]
      have : sumI (t.map (fun w => if n = w then x else 0)) = x := ih h2 ((List.mem_cons.1 hm).elim (fun h => absurd h e) id)
      omega
theorem gotLegs_cons (g : Leg_) (l : List Leg_) (who asset : ByteArray) : sumI (gotLegs (g :: l) who asset) = (if g.f0 = who then (if g.f1 = asset then g.f2 else 0) else 0) + sumI (gotLegs l who asset) := by
  unfold gotLegs
  by_cases h1 : g.f0 = who <;> by_cases h2 : g.f1 = asset <;> simp [h1, h2, sumI]
theorem legs_over {ws : List ByteArray} (hn : ws.Nodup) (asset : ByteArray) : ∀ (l : List Leg_), (∀ g ∈ l, g.f0 ∈ ws) → sumW (fun w => sumI (gotLegs l w asset)) ws = sumI (amtsOf l asset)
  | [], _ => sumW_zero ws _ (fun _ _ => rfl)
  | g :: t, h => by
    have ih := legs_over hn asset t (fun x hx => h x (List.mem_cons_of_mem _ hx))
    have e : (fun w => sumI (gotLegs (g :: t) w asset)) = fun w => (if g.f0 = w then (if g.f1 = asset then g.f2 else 0) else 0) + sumI (gotLegs t w asset) := by
      funext w
      exact gotLegs_cons g t w asset
    rw [e, sumW_add, sumW_one hn _ (h g (List.mem_cons_self ..)), ih, amts_cons]
theorem got_over {ws : List ByteArray} (hn : ws.Nodup) (asset : ByteArray) (a c : Int) : ∀ (l : List Ent_), (∀ e ∈ l, checkB e.f2 e.f3 = true ∧ ∀ g ∈ e.f3, g.f0 ∈ ws) → sumW (fun w => sumI (gotOf l w asset a c)) ws = 0
  | [], _ => sumW_zero ws _ (fun _ _ => rfl)
  | x :: t, h => by
    have ih := got_over hn asset a c t (fun e he => h e (List.mem_cons_of_mem _ he))
    obtain ⟨hc, hw⟩ := h x (List.mem_cons_self ..)
    have hz : sumI (amtsOf x.f3 asset) = 0 := by
      cases hq : amtsOf x.f3 asset with
      | nil => rfl
      | cons z r =>
        obtain ⟨g, hg, he, _⟩ := amts_mem (l := x.f3) (a := asset) (x := z) (by rw [hq]; exact List.mem_cons_self ..)
        rw [← hq, ← he]
        exact (check_get hc).2.2.2.2 g hg
    have e : (fun w => sumI (gotOf (x :: t) w asset a c)) = fun w => (if a ≤ x.f1 ∧ x.f1 < c then sumI (gotLegs x.f3 w asset) else 0) + sumI (gotOf t w asset a c) := by
      funext w
      simp only [gotOf, sumI_app]
      split <;> rfl
    rw [e, sumW_add, ih]
    by_cases hin : a ≤ x.f1 ∧ x.f1 < c
    · simp only [if_pos hin]
      rw [legs_over hn asset x.f3 hw, hz]
      rfl
    · simp only [if_neg hin]
      rw [sumW_zero ws _ (fun _ _ => rfl)]
      rfl
/-- All who are named got nothing in sum. -/
theorem all_zero (l : List Ent_) (asset : ByteArray) (a c : Int) (h : ∀ e ∈ l, checkB e.f2 e.f3 = true) : sumI ((whoOf l).map fun w => sumI (gotOf l w asset a c)) = 0 :=
  got_over (who_facts l).1 asset a c l (fun e he => ⟨h e he, (who_facts l).2 e he⟩)
end Go.Proofs.YtjlifcbddednaaaDoor.E
