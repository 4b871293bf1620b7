/- What came in, as the row's form reads it, told in the walks' own kinds: texts, numbers, structs, slices of whatever. -/
import Derived.Test.YtnngbnhbmgdkoaaDoorWWords
import Derived.SizedLaws
import Derived.ChangeArms
import Derived.DataElems
namespace Go.Proofs.YtnngbnhbmgdkoaaDoor.E
open Go.RowKit Go.Proofs.YtnngbnhbmgdkoaaDoorW.PrintWords

def lim : Nat := 140737488351232
theorem lim_eq : reachBytes = lim := by decide
/-- A value of type T that the form can read, of bounded size, is one of the kind d, and good. -/
def Opn {α : Type} (P : Program) (T : TypeId) (d : Kd α) (good : α → Prop) : Prop :=
  ∀ {H : Type} (enc : TypeId × Value → H) (w : World) (base : Nat) (spare : Nat → Bool) (held : Bool) (fuel : Nat) (cs : List Value) (x : DataW H) (p : List MemPlace),
    DataW.trod enc P w base spare held fuel T cs = some (x, p) → (∀ n ∈ x.weights P T, n ≤ lim) → ∃ a, d.K w a cs ∧ good a

theorem Opn.string {P : Program} {T : TypeId} (h : P.underlying T = some .string) : Opn P T Kd.string (fun s => s.size ≤ lim) := by
  intro H enc w base spare held fuel cs x p hx hw
  obtain ⟨s, rfl, hx2, _⟩ := DataW.trod_string h hx
  obtain ⟨rfl, rfl⟩ := Prod.mk.inj hx2
  refine ⟨s, rfl, ?_⟩
  have := hw s.data.toList.length (by simp [DataW.weights])
  rwa [data_length] at this
theorem Opn.int {P : Program} {T : TypeId} {k : IntKind} (h : P.underlying T = some (.int k)) : Opn P T (Kd.int k) (fun n => (Lit.int k n).wf = true) := by
  intro H enc w base spare held fuel cs x p hx _
  obtain ⟨n, rfl, _, hn⟩ := DataW.trod_int h hx
  exact ⟨n, rfl, hn⟩
theorem Opn.bool {P : Program} {T : TypeId} (h : P.underlying T = some .bool) : Opn P T Kd.bool (fun _ => True) := by
  intro H enc w base spare held fuel cs x p hx _
  obtain ⟨b, rfl, _⟩ := DataW.trod_bool h hx
  exact ⟨b, rfl, trivial⟩

theorem exists_list {α : Type} (n : Nat) (p : Nat → α → Prop) (h : ∀ i, i < n → ∃ a, p i a) : ∃ l : List α, l.length = n ∧ ∀ i a, l[i]? = some a → p i a := by
  induction n with
  | zero => exact ⟨[], rfl, fun i a h => by simp at h⟩
  | succ n ih =>
    obtain ⟨l, hl, hp⟩ := ih (fun i hi => h i (by omega))
    obtain ⟨a, ha⟩ := h n (by omega)
    refine ⟨l ++ [a], by simp [hl], fun i b hb => ?_⟩
    by_cases hi : i < n
    · rw [List.getElem?_append_left (by omega)] at hb
      exact hp i b hb
    · rw [List.getElem?_append_right (by omega)] at hb
      by_cases e : i = n
      · subst e
        simp [hl] at hb
        exact hb ▸ ha
      · rw [List.getElem?_eq_none (by simp; omega)] at hb
        cases hb
theorem weights_all {H : Type} {P : Program} {e : TypeId} : ∀ {l : List (DataW H)} {y : DataW H}, y ∈ l → ∀ n ∈ y.weights P e, n ∈ DataW.weightsAll P e l
  | d :: r, y, h, n, hn => by
    simp only [DataW.weightsAll, List.mem_append]
    rcases List.mem_cons.1 h with rfl | h
    · exact .inl hn
    · exact .inr (weights_all h n hn)
theorem cells?_each {w : World} {base : Nat} {a : Addr} {n : Nat} {cs : List Value} (h : w.cells? base a n = some cs) : cs.length = n ∧ ∀ i u, cs[i]? = some u → w.cell? (a.add i) = some u := by
  unfold World.cells? at h
  split at h
  · have hl := mapM_some_length h
    simp at hl
    refine ⟨hl, fun i u hi => ?_⟩
    have hin : i < n := by rw [← hl]; exact (List.getElem?_eq_some_iff.1 hi).1
    have := mapM_some_get h i i (by simp [hin])
    rw [this, hi]
  · cases h

theorem Opn.slice {α : Type} {P : Program} {T e : TypeId} {d : Kd α} {good : α → Prop} (h : P.underlying T = some (.slice e)) (hc : P.cellsOf e = d.sz) (o : Opn P e d good) :
    Opn P T (Kd.slice e d) (fun l => (∀ a ∈ l, good a) ∧ l.length * P.bytesOf e ≤ lim) := by
  intro H enc w base spare held fuel cs x p hx hw
  rcases DataW.trod_slice h hx with ⟨rfl, hx2⟩ | ⟨a, len, cap, elems, rest, n, rfl, rfl, hx2, _, hl, hm, hlen, hel, _, _⟩
  · exact ⟨[], ⟨none, 0, rfl, Nat.le_refl _, rfl, by simp, fun h => by simp at h⟩, by simp, by simp⟩
  · obtain ⟨rfl, rfl⟩ := Prod.mk.inj hx2
    have hw1 : (elems.length + rest.length) * P.bytesOf e ≤ lim := by
      have := hw ((elems.length + rest.length) * P.bytesOf e) (by simp [DataW.weights, h])
      exact this
    have hw2 : ∀ y ∈ elems.map (·.1), ∀ n ∈ y.weights P e, n ≤ lim := fun y hy n hn => hw n (by
      simp only [DataW.weights, h, List.mem_cons, List.mem_append]
      exact .inr (.inl (weights_all hy n hn)))
    obtain ⟨l, hll, hlp⟩ := exists_list len (fun i b => good b ∧ ∃ c, c.length = d.sz ∧ d.K w b c ∧ ∀ j u, c[j]? = some u → w.cell? (a.add (i * d.sz + j)) = some u) (fun i hi => by
      have h1 := hel i hi
      obtain ⟨c, hc1, hc2⟩ := Option.bind_eq_some_iff.1 (h1.trans (List.getElem?_eq_getElem (by omega : i < elems.length)))
      obtain ⟨hcl, hcc⟩ := cells?_each hc1
      obtain ⟨b, hb, hg⟩ := o enc w base spare held n c elems[i].1 elems[i].2 hc2 (hw2 _ (List.mem_map.2 ⟨elems[i], List.getElem_mem _, rfl⟩))
      refine ⟨b, hg, c, hcl.trans hc, hb, fun j u hj => ?_⟩
      rw [← hc, ← Addr.add_add]
      exact hcc j u hj)
    refine ⟨l, ⟨some a, cap, by rw [hll], by rw [hll]; exact hl, rfl, by rw [hll]; unfold maxLen at hm; omega, fun _ => ⟨a, rfl, fun j b hj => ?_⟩⟩, fun b hb => ?_, ?_⟩
    · exact (hlp j b hj).2
    · obtain ⟨i, hi, rfl⟩ := List.getElem_of_mem hb
      exact (hlp i _ (List.getElem?_eq_getElem hi)).1
    · rw [hll, ← hlen]
      exact Nat.le_trans (Nat.mul_le_mul_right _ (Nat.le_add_right _ _)) hw1

/-- The fields of a struct, from cell 'off' on. -/
def OpnFs {α : Type} (P : Program) (fs : List Field) (off : Nat) (d : Kd α) (good : α → Prop) : Prop :=
  ∀ {H : Type} (enc : TypeId × Value → H) (w : World) (base : Nat) (spare : Nat → Bool) (held : Bool) (n : Nat) (cs : List Value) (xs : List (DataW H × List MemPlace)),
    cs.length = off + d.sz → xs.length = fs.length → (∀ (i : Nat) (f : Field), fs[i]? = some f → DataW.trod enc P w base spare held n f.type ((cs.drop f.offset).take (P.cellsOf f.type)) = xs[i]?) →
    (∀ n ∈ DataW.weightsEach P (fs.map (·.type)) (xs.map (·.1)), n ≤ lim) → ∃ a, d.K w a (cs.drop off) ∧ good a
theorem OpnFs.last {α : Type} {P : Program} {f : Field} {off : Nat} {d : Kd α} {good : α → Prop} (ho : f.offset = off) (hc : P.cellsOf f.type = d.sz) (o : Opn P f.type d good) : OpnFs P [f] off d good := by
  intro H enc w base spare held n cs xs hl hxl hf hw
  match xs, hxl with
  | [(x, p)], _ =>
    have h0 := hf 0 f rfl
    rw [ho, hc, List.take_of_length_le (by rw [List.length_drop]; omega)] at h0
    exact o enc w base spare held n _ x p h0 (fun m hm => hw m (by simp [DataW.weightsEach, hm]))
theorem OpnFs.next {α β : Type} {P : Program} {f : Field} {fs : List Field} {off : Nat} {d : Kd α} {d' : Kd β} {good : α → Prop} {good' : β → Prop} (ho : f.offset = off) (hc : P.cellsOf f.type = d.sz) (o : Opn P f.type d good)
    (os : OpnFs P fs (off + d.sz) d' good') : OpnFs P (f :: fs) off (Kd.pair d d') (fun x => good x.1 ∧ good' x.2) := by
  intro H enc w base spare held n cs xs hl hxl hf hw
  match xs, hxl with
  | (x, p) :: xs, hxl =>
    have hsz : (Kd.pair d d').sz = d.sz + d'.sz := rfl
    rw [hsz] at hl
    have h0 := hf 0 f rfl
    rw [ho, hc] at h0
    obtain ⟨a, ha, ga⟩ := o enc w base spare held n _ x p h0 (fun m hm => hw m (by simp [DataW.weightsEach, hm]))
    obtain ⟨b, hb, gb⟩ := os enc w base spare held n cs xs (by omega) (by simpa using hxl) (fun i g hg => by have := hf (i + 1) g (by simpa using hg); simpa using this) (fun m hm => hw m (by simp [DataW.weightsEach]; exact .inr hm))
    refine ⟨(a, b), ⟨_, _, ?_, ha, hb⟩, ga, gb⟩
    rw [← List.drop_drop, List.take_append_drop]
theorem Opn.struct {α : Type} {P : Program} {T : TypeId} {fs : Array Field} {d : Kd α} {good : α → Prop} (h : P.underlying T = some (.struct fs)) (hc : P.cellsOf T = d.sz) (o : OpnFs P fs.toList 0 d good) : Opn P T d good := by
  intro H enc w base spare held fuel cs x p hx hw
  obtain ⟨xs, n, rfl, hx2, hl, hxl, hf⟩ := DataW.trod_struct h hx
  obtain ⟨rfl, rfl⟩ := Prod.mk.inj hx2
  have := o enc w base spare held n cs xs (by omega) (by simpa using hxl) (fun i f hi => hf i f (by simpa using hi)) (fun m hm => hw m (by simp only [DataW.weights, h]; exact hm))
  simpa using this
theorem Opn.iso {α β : Type} {P : Program} {T : TypeId} {d : Kd α} {good : α → Prop} {f : β → α} (g : α → β) (hg : ∀ a, f (g a) = a) (o : Opn P T d good) : Opn P T (Kd.iso d f) (fun b => good (f b)) := by
  intro H enc w base spare held fuel cs x p hx hw
  obtain ⟨a, ha, ga⟩ := o enc w base spare held fuel cs x p hx hw
  exact ⟨g a, by show d.K w (f (g a)) cs; rw [hg]; exact ha, by show good (f (g a)); rw [hg]; exact ga⟩

/-- An argument's size out of the row's weights. -/
theorem sized_arg {H : Type} {P : Program} {ts : List TypeId} {ds : List (DataW H)} (h : (DataW.weightsEach P ts ds).all (· ≤ reachBytes) = true) {j : Nat} {t : TypeId} {d : DataW H} (ht : ts[j]? = some t) (hd : ds[j]? = some d) : ∀ n ∈ d.weights P t, n ≤ lim := fun n hn => by
  have := List.all_eq_true.1 h n (DataW.weights_mem_each ht hd n hn)
  rw [← lim_eq]
  simpa using this
/-- A slice that came in. -/
theorem open_arg {α : Type} {P : Program} {T e : TypeId} {d : Kd α} {good : List α → Prop} (o : Opn P T (Kd.slice e d) good) {H : Type} {enc : TypeId × Value → H} {W : World} {base : Nat} {spare : Nat → Bool} {held : Bool} {a : Option Addr} {len cap : Nat} {x : DataW H} {p : List MemPlace}
    (h : DataW.Trod enc P W base spare held T (.slice a len cap) x p) (hw : ∀ n ∈ x.weights P T, n ≤ lim) : ∃ l : List α, len = l.length ∧ l.length ≤ cap ∧ Kd.C d W a l.length l ∧ good l := by
  obtain ⟨fuel, hf⟩ := h
  obtain ⟨l, ⟨A, c, hcs, hle, hC⟩, hg⟩ := o enc W base spare held fuel _ x p hf hw
  simp [Value.cells] at hcs
  obtain ⟨rfl, rfl, rfl⟩ := hcs
  exact ⟨l, rfl, hle, hC, hg⟩
end Go.Proofs.YtnngbnhbmgdkoaaDoor.E
