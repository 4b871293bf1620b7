/- What came in, as the row's form reads it, told in the walks' own kinds: texts, numbers, structs, slices of whatever. Legs, entries, lines and statements that came in. -/
import Derived.Test.YtnngbnhbmgdkoaaGreatDoorWWords
import Derived.SizedLaws
import Derived.ChangeArms
import Derived.DataElems
import Derived.Test.YtnngbnhbmgdkoaaGreatDoorJPure
import Derived.WideShapes
namespace Go.Proofs.YtnngbnhbmgdkoaaGreatDoor.E
open Go.RowKit Go.Proofs.YtnngbnhbmgdkoaaGreatDoorW.PrintWords

def lim : Nat := 140737488351232
theorem lim_eq : reachBytes = lim := by decide
/-- A value of type T that the form can read, of bounded size, is one of the kind d, and good. -/
def Opn {α : Type} (P : Program) (T : TypeId) (d : Kd α) (good : α → Prop) : Prop :=
  ∀ {H : Type} (enc : TypeId × Value → H) (w : World) (base : Nat) (spare : Nat → Bool) (held : Bool) (fuel : Nat) (cs : List Value) (x : DataW H) (p : List MemPlace),
    DataW.trod enc P w base spare held fuel T cs = some (x, p) → (∀ n ∈ x.weights P T, n ≤ lim) → ∃ a, d.K w a cs ∧ good a

theorem Opn.string {P : Program} {T : TypeId} (h : P.underlying T = some .string) : Opn P T Kd.string (fun s => s.size ≤ lim) := by
  intro H enc w base spare held fuel cs x p hx hw
  obtain ⟨s, rfl, hx2, _⟩ := DataW.trod_string h hx
  obtain ⟨rfl, rfl⟩ := Prod.mk.inj hx2
  refine ⟨s, rfl, ?_⟩
  have := hw s.data.toList.length (by simp [DataW.weights])
  rwa [data_length] at this
theorem Opn.int {P : Program} {T : TypeId} {k : IntKind} (h : P.underlying T = some (.int k)) : Opn P T (Kd.int k) (fun n => (Lit.int k n).wf = true) := by
  intro H enc w base spare held fuel cs x p hx _
  obtain ⟨n, rfl, _, hn⟩ := DataW.trod_int h hx
  exact ⟨n, rfl, hn⟩
theorem Opn.bool {P : Program} {T : TypeId} (h : P.underlying T = some .bool) : Opn P T Kd.bool (fun _ => True) := by
  intro H enc w base spare held fuel cs x p hx _
  obtain ⟨b, rfl, _⟩ := DataW.trod_bool h hx
  exact ⟨b, rfl, trivial⟩

theorem exists_list {α : Type} (n : Nat) (p : Nat → α → Prop) (h : ∀ i, i < n → ∃ a, p i a) : ∃ l : List α, l.length = n ∧ ∀ i a, l[i]? = some a → p i a := by
  induction n with
  | zero => exact ⟨[], rfl, fun i a h => by simp at h⟩
  | succ n ih =>
    obtain ⟨l, hl, hp⟩ := ih (fun i hi => h i (by omega))
    obtain ⟨a, ha⟩ := h n (by omega)
    refine ⟨l ++ [a], by simp [hl], fun i b hb => ?_⟩
    by_cases hi : i < n
    · rw [List.getElem?_append_left (by omega)] at hb
      exact hp i b hb
    · rw [List.getElem?_append_right (by omega)] at hb
      by_cases e : i = n
      · subst e
        simp [hl] at hb
        exact hb ▸ ha
      · rw [List.getElem?_eq_none (by simp; omega)] at hb
        cases hb
theorem weights_all {H : Type} {P : Program} {e : TypeId} : ∀ {l : List (DataW H)} {y : DataW H}, y ∈ l → ∀ n ∈ y.weights P e, n ∈ DataW.weightsAll P e l
  | d :: r, y, h, n, hn => by
    simp only [DataW.weightsAll, List.mem_append]
    rcases List.mem_cons.1 h with rfl | h
    · exact .inl hn
    · exact .inr (weights_all h n hn)
theorem cells?_each {w : World} {base : Nat} {a : Addr} {n : Nat} {cs : List Value} (h : w.cells? base a n = some cs) : cs.length = n ∧ ∀ i u, cs[i]? = some u → w.cell? (a.add i) = some u := by
  unfold World.cells? at h
  split at h
  · have hl := mapM_some_length h
    simp at hl
    refine ⟨hl, fun i u hi => ?_⟩
    have hin : i < n := by rw [← hl]; exact (List.getElem?_eq_some_iff.1 hi).1
    have := mapM_some_get h i i (by simp [hin])
    rw [this, hi]
  · cases h

theorem Opn.slice {α : Type} {P : Program} {T e : TypeId} {d : Kd α} {good : α → Prop} (h : P.underlying T = some (.slice e)) (hc : P.cellsOf e = d.sz) (o : Opn P e d good) :
    Opn P T (Kd.slice e d) (fun l => (∀ a ∈ l, good a) ∧ l.length * P.bytesOf e ≤ lim) := by
  intro H enc w base spare held fuel cs x p hx hw
  rcases DataW.trod_slice h hx with ⟨rfl, hx2⟩ | ⟨a, len, cap, elems, rest, n, rfl, rfl, hx2, _, hl, hm, hlen, hel, _, _⟩
  · exact ⟨[], ⟨none, 0, rfl, Nat.le_refl _, rfl, by simp, fun h => by simp at h⟩, by simp, by simp⟩
  · obtain ⟨rfl, rfl⟩ := Prod.mk.inj hx2
    have hw1 : (elems.length + rest.length) * P.bytesOf e ≤ lim := by
      have := hw ((elems.length + rest.length) * P.bytesOf e) (by simp [DataW.weights, h])
      exact this
    have hw2 : ∀ y ∈ elems.map (·.1), ∀ n ∈ y.weights P e, n ≤ lim := fun y hy n hn => hw n (by
      simp only [DataW.weights, h, List.mem_cons, List.mem_append]
      exact .inr (.inl (weights_all hy n hn)))
    obtain ⟨l, hll, hlp⟩ := exists_list len (fun i b => good b ∧ ∃ c, c.length = d.sz ∧ d.K w b c ∧ ∀ j u, c[j]? = some u → w.cell? (a.add (i * d.sz + j)) = some u) (fun i hi => by
      have h1 := hel i hi
      obtain ⟨c, hc1, hc2⟩ := Option.bind_eq_some_iff.1 (h1.trans (List.getElem?_eq_getElem (by omega : i < elems.length)))
      obtain ⟨hcl, hcc⟩ := cells?_each hc1
      obtain ⟨b, hb, hg⟩ := o enc w base spare held n c elems[i].1 elems[i].2 hc2 (hw2 _ (List.mem_map.2 ⟨elems[i], List.getElem_mem _, rfl⟩))
      refine ⟨b, hg, c, hcl.trans hc, hb, fun j u hj => ?_⟩
      rw [← hc, ← Addr.add_add]
      exact hcc j u hj)
    refine ⟨l, ⟨some a, cap, by rw [hll], by rw [hll]; exact hl, rfl, by rw [hll]; unfold maxLen at hm; omega, fun _ => ⟨a, rfl, fun j b hj => ?_⟩⟩, fun b hb => ?_, ?_⟩
    · exact (hlp j b hj).2
    · obtain ⟨i, hi, rfl⟩ := List.getElem_of_mem hb
      exact (hlp i _ (List.getElem?_eq_getElem hi)).1
    · rw [hll, ← hlen]
      exact Nat.le_trans (Nat.mul_le_mul_right _ (Nat.le_add_right _ _)) hw1

/-- The fields of a struct, from cell 'off' on. -/
def OpnFs {α : Type} (P : Program) (fs : List Field) (off : Nat) (d : Kd α) (good : α → Prop) : Prop :=
  ∀ {H : Type} (enc : TypeId × Value → H) (w : World) (base : Nat) (spare : Nat → Bool) (held : Bool) (n : Nat) (cs : List Value) (xs : List (DataW H × List MemPlace)),
    cs.length = off + d.sz → xs.length = fs.length → (∀ (i : Nat) (f : Field), fs[i]? = some f → DataW.trod enc P w base spare held n f.type ((cs.drop f.offset).take (P.cellsOf f.type)) = xs[i]?) →
    (∀ n ∈ DataW.weightsEach P (fs.map (·.type)) (xs.map (·.1)), n ≤ lim) → ∃ a, d.K w a (cs.drop off) ∧ good a
theorem OpnFs.last {α : Type} {P : Program} {f : Field} {off : Nat} {d : Kd α} {good : α → Prop} (ho : f.offset = off) (hc : P.cellsOf f.type = d.sz) (o : Opn P f.type d good) : OpnFs P [f] off d good := by
  intro H enc w base spare held n cs xs hl hxl hf hw
  match xs, hxl with
  | [(x, p)], _ =>
    have h0 := hf 0 f rfl
    rw [ho, hc, List.take_of_length_le (by rw [List.length_drop]; omega)] at h0
    exact o enc w base spare held n _ x p h0 (fun m hm => hw m (by simp [DataW.weightsEach, hm]))
theorem OpnFs.next {α β : Type} {P : Program} {f : Field} {fs : List Field} {off : Nat} {d : Kd α} {d' : Kd β} {good : α → Prop} {good' : β → Prop} (ho : f.offset = off) (hc : P.cellsOf f.type = d.sz) (o : Opn P f.type d good)
    (os : OpnFs P fs (off + d.sz) d' good') : OpnFs P (f :: fs) off (Kd.pair d d') (fun x => good x.1 ∧ good' x.2) := by
  intro H enc w base spare held n cs xs hl hxl hf hw
  match xs, hxl with
  | (x, p) :: xs, hxl =>
    have hsz : (Kd.pair d d').sz = d.sz + d'.sz := rfl
    rw [hsz] at hl
    have h0 := hf 0 f rfl
    rw [ho, hc] at h0
    obtain ⟨a, ha, ga⟩ := o enc w base spare held n _ x p h0 (fun m hm => hw m (by simp [DataW.weightsEach, hm]))
    obtain ⟨b, hb, gb⟩ := os enc w base spare held n cs xs (by omega) (by simpa using hxl) (fun i g hg => by have := hf (i + 1) g (by simpa using hg); simpa using this) (fun m hm => hw m (by simp [DataW.weightsEach]; exact .inr hm))
    refine ⟨(a, b), ⟨_, _, ?_, ha, hb⟩, ga, gb⟩
    rw [← List.drop_drop, List.take_append_drop]
theorem Opn.struct {α : Type} {P : Program} {T : TypeId} {fs : Array Field} {d : Kd α} {good : α → Prop} (h : P.underlying T = some (.struct fs)) (hc : P.cellsOf T = d.sz) (o : OpnFs P fs.toList 0 d good) : Opn P T d good := by
  intro H enc w base spare held fuel cs x p hx hw
  obtain ⟨xs, n, rfl, hx2, hl, hxl, hf⟩ := DataW.trod_struct h hx
  obtain ⟨rfl, rfl⟩ := Prod.mk.inj hx2
  have := o enc w base spare held n cs xs (by omega) (by simpa using hxl) (fun i f hi => hf i f (by simpa using hi)) (fun m hm => hw m (by simp only [DataW.weights, h]; exact hm))
  simpa using this
theorem Opn.iso {α β : Type} {P : Program} {T : TypeId} {d : Kd α} {good : α → Prop} {f : β → α} (g : α → β) (hg : ∀ a, f (g a) = a) (o : Opn P T d good) : Opn P T (Kd.iso d f) (fun b => good (f b)) := by
  intro H enc w base spare held fuel cs x p hx hw
  obtain ⟨a, ha, ga⟩ := o enc w base spare held fuel cs x p hx hw
  exact ⟨g a, by show d.K w (f (g a)) cs; rw [hg]; exact ha, by show good (f (g a)); rw [hg]; exact ga⟩

/-- An argument's size out of the row's weights. -/
theorem sized_arg {H : Type} {P : Program} {ts : List TypeId} {ds : List (DataW H)} (h : (DataW.weightsEach P ts ds).all (· ≤ reachBytes) = true) {j : Nat} {t : TypeId} {d : DataW H} (ht : ts[j]? = some t) (hd : ds[j]? = some d) : ∀ n ∈ d.weights P t, n ≤ lim := fun n hn => by
  have := List.all_eq_true.1 h n (DataW.weights_mem_each ht hd n hn)
  rw [← lim_eq]
  simpa using this
/-- A slice that came in. -/
theorem open_arg {α : Type} {P : Program} {T e : TypeId} {d : Kd α} {good : List α → Prop} (o : Opn P T (Kd.slice e d) good) {H : Type} {enc : TypeId × Value → H} {W : World} {base : Nat} {spare : Nat → Bool} {held : Bool} {a : Option Addr} {len cap : Nat} {x : DataW H} {p : List MemPlace}
    (h : DataW.Trod enc P W base spare held T (.slice a len cap) x p) (hw : ∀ n ∈ x.weights P T, n ≤ lim) : ∃ l : List α, len = l.length ∧ l.length ≤ cap ∧ Kd.C d W a l.length l ∧ good l := by
  obtain ⟨fuel, hf⟩ := h
  obtain ⟨l, ⟨A, c, hcs, hle, hC⟩, hg⟩ := o enc W base spare held fuel _ x p hf hw
  simp [Value.cells] at hcs
  obtain ⟨rfl, rfl, rfl⟩ := hcs
  exact ⟨l, rfl, hle, hC, hg⟩
end Go.Proofs.YtnngbnhbmgdkoaaGreatDoor.E
set_option maxRecDepth 4000
namespace Go.Proofs.YtnngbnhbmgdkoaaGreatDoor.E
open Go.RowKit Go.WideShapes Go.Proofs.YtnngbnhbmgdkoaaGreatDoor.P Go.Proofs.YtnngbnhbmgdkoaaGreatDoorW.PrintWords
abbrev OLine_ := S37
def goodLeg (x : Leg_) : Prop := x.f0.size ≤ lim ∧ x.f1.size ≤ lim ∧ (Lit.int .i64 x.f2).wf = true
theorem opn_leg : Opn Tryz.prog 40 k40 goodLeg := by
  have f2 : OpnFs Tryz.prog [{ name := "Amount", type := 2, offset := 2, embedded := false, tag := "", pkgPath := "", byteOffset := 32 }] 2 (Kd.int .i64) (fun x : Int => (Lit.int .i64 x).wf = true) := OpnFs.last (P := Tryz.prog) (f := { name := "Amount", type := 2, offset := 2, embedded := false, tag := "", pkgPath := "", byteOffset := 32 }) (off := 2) (d := (Kd.int .i64)) (good := fun x : Int => (Lit.int .i64 x).wf = true) rfl (by kernel_rfl) (Opn.int Tryz.underlying2)
  have f1 : OpnFs Tryz.prog [{ name := "Asset", type := 9, offset := 1, embedded := false, tag := "", pkgPath := "", byteOffset := 16 }, { name := "Amount", type := 2, offset := 2, embedded := false, tag := "", pkgPath := "", byteOffset := 32 }] 1 (Kd.pair Kd.string (Kd.int .i64)) (fun x : ByteArray × Int => x.1.size ≤ lim ∧ (Lit.int .i64 x.2).wf = true) := OpnFs.next (P := Tryz.prog) (f := { name := "Asset", type := 9, offset := 1, embedded := false, tag := "", pkgPath := "", byteOffset := 16 }) (off := 1) (d := Kd.string) (good := fun x : ByteArray => x.size ≤ lim) rfl (by kernel_rfl) (Opn.string Tryz.underlying9) f2
  have f0 : OpnFs Tryz.prog [{ name := "Who", type := 9, offset := 0, embedded := false, tag := "", pkgPath := "", byteOffset := 0 }, { name := "Asset", type := 9, offset := 1, embedded := false, tag := "", pkgPath := "", byteOffset := 16 }, { name := "Amount", type := 2, offset := 2, embedded := false, tag := "", pkgPath := "", byteOffset := 32 }] 0 (Kd.pair Kd.string (Kd.pair Kd.string (Kd.int .i64))) (fun x : ByteArray × ByteArray × Int => x.1.size ≤ lim ∧ x.2.1.size ≤ lim ∧ (Lit.int .i64 x.2.2).wf = true) := OpnFs.next (P := Tryz.prog) (f := { name := "Who", type := 9, offset := 0, embedded := false, tag := "", pkgPath := "", byteOffset := 0 }) (off := 0) (d := Kd.string) (good := fun x : ByteArray => x.size ≤ lim) rfl (by kernel_rfl) (Opn.string Tryz.underlying9) f1
  have h : Opn Tryz.prog 40 (Kd.pair Kd.string (Kd.pair Kd.string (Kd.int .i64))) (fun x : ByteArray × ByteArray × Int => x.1.size ≤ lim ∧ x.2.1.size ≤ lim ∧ (Lit.int .i64 x.2.2).wf = true) := by
    intro H enc w base spare held fuel cs x p hx hw
    exact Opn.struct Tryz.underlying40 (by kernel_rfl) f0 enc w base spare held fuel cs x p hx hw
  intro H enc w base spare held fuel cs x p hx hw
  exact Opn.iso (f := fun x : Leg_ => (x.f0, x.f1, x.f2)) (fun x => ⟨x.1, x.2.1, x.2.2⟩) (fun _ => rfl) h enc w base spare held fuel cs x p hx hw
def goodEnt (x : Ent_) : Prop := (Lit.int .u64 x.f0).wf = true ∧ (Lit.int .u64 x.f1).wf = true ∧ x.f2.size ≤ lim ∧ ((∀ a ∈ x.f3, goodLeg a) ∧ x.f3.length * Tryz.prog.bytesOf 40 ≤ lim)
theorem opn_ent : Opn Tryz.prog 43 k43 goodEnt := by
  have f3 : OpnFs Tryz.prog [{ name := "Legs", type := 41, offset := 3, embedded := false, tag := "", pkgPath := "", byteOffset := 32 }] 3 (Kd.slice 40 k40) (fun x : List Leg_ => ((∀ a ∈ x, goodLeg a) ∧ x.length * Tryz.prog.bytesOf 40 ≤ lim)) := OpnFs.last (P := Tryz.prog) (f := { name := "Legs", type := 41, offset := 3, embedded := false, tag := "", pkgPath := "", byteOffset := 32 }) (off := 3) (d := (Kd.slice 40 k40)) (good := fun x : List Leg_ => ((∀ a ∈ x, goodLeg a) ∧ x.length * Tryz.prog.bytesOf 40 ≤ lim)) rfl (by kernel_rfl) ((Opn.slice Tryz.underlying41 (by kernel_rfl) opn_leg))
  have f2 : OpnFs Tryz.prog [{ name := "Request", type := 9, offset := 2, embedded := false, tag := "", pkgPath := "", byteOffset := 16 }, { name := "Legs", type := 41, offset := 3, embedded := false, tag := "", pkgPath := "", byteOffset := 32 }] 2 (Kd.pair Kd.string (Kd.slice 40 k40)) (fun x : ByteArray × List Leg_ => x.1.size ≤ lim ∧ ((∀ a ∈ x.2, goodLeg a) ∧ x.2.length * Tryz.prog.bytesOf 40 ≤ lim)) := OpnFs.next (P := Tryz.prog) (f := { name := "Request", type := 9, offset := 2, embedded := false, tag := "", pkgPath := "", byteOffset := 16 }) (off := 2) (d := Kd.string) (good := fun x : ByteArray => x.size ≤ lim) rfl (by kernel_rfl) (Opn.string Tryz.underlying9) f3
  have f1 : OpnFs Tryz.prog [{ name := "Day", type := 22, offset := 1, embedded := false, tag := "", pkgPath := "", byteOffset := 8 }, { name := "Request", type := 9, offset := 2, embedded := false, tag := "", pkgPath := "", byteOffset := 16 }, { name := "Legs", type := 41, offset := 3, embedded := false, tag := "", pkgPath := "", byteOffset := 32 }] 1 (Kd.pair (Kd.int .u64) (Kd.pair Kd.string (Kd.slice 40 k40))) (fun x : Int × ByteArray × List Leg_ => (Lit.int .u64 x.1).wf = true ∧ x.2.1.size ≤ lim ∧ ((∀ a ∈ x.2.2, goodLeg a) ∧ x.2.2.length * Tryz.prog.bytesOf 40 ≤ lim)) := OpnFs.next (P := Tryz.prog) (f := { name := "Day", type := 22, offset := 1, embedded := false, tag := "", pkgPath := "", byteOffset := 8 }) (off := 1) (d := (Kd.int .u64)) (good := fun x : Int => (Lit.int .u64 x).wf = true) rfl (by kernel_rfl) (Opn.int Tryz.underlying22) f2
  have f0 : OpnFs Tryz.prog [{ name := "Number", type := 22, offset := 0, embedded := false, tag := "", pkgPath := "", byteOffset := 0 }, { name := "Day", type := 22, offset := 1, embedded := false, tag := "", pkgPath := "", byteOffset := 8 }, { name := "Request", type := 9, offset := 2, embedded := false, tag := "", pkgPath := "", byteOffset := 16 }, { name := "Legs", type := 41, offset := 3, embedded := false, tag := "", pkgPath := "", byteOffset := 32 }] 0 (Kd.pair (Kd.int .u64) (Kd.pair (Kd.int .u64) (Kd.pair Kd.string (Kd.slice 40 k40)))) (fun x : Int × Int × ByteArray × List Leg_ => (Lit.int .u64 x.1).wf = true ∧ (Lit.int .u64 x.2.1).wf = true ∧ x.2.2.1.size ≤ lim ∧ ((∀ a ∈ x.2.2.2, goodLeg a) ∧ x.2.2.2.length * Tryz.prog.bytesOf 40 ≤ lim)) := OpnFs.next (P := Tryz.prog) (f := { name := "Number", type := 22, offset := 0, embedded := false, tag := "", pkgPath := "", byteOffset := 0 }) (off := 0) (d := (Kd.int .u64)) (good := fun x : Int => (Lit.int .u64 x).wf = true) rfl (by kernel_rfl) (Opn.int Tryz.underlying22) f1
  have h : Opn Tryz.prog 43 (Kd.pair (Kd.int .u64) (Kd.pair (Kd.int .u64) (Kd.pair Kd.string (Kd.slice 40 k40)))) (fun x : Int × Int × ByteArray × List Leg_ => (Lit.int .u64 x.1).wf = true ∧ (Lit.int .u64 x.2.1).wf = true ∧ x.2.2.1.size ≤ lim ∧ ((∀ a ∈ x.2.2.2, goodLeg a) ∧ x.2.2.2.length * Tryz.prog.bytesOf 40 ≤ lim)) := by
    intro H enc w base spare held fuel cs x p hx hw
    exact Opn.struct Tryz.underlying43 (by kernel_rfl) f0 enc w base spare held fuel cs x p hx hw
  intro H enc w base spare held fuel cs x p hx hw
  exact Opn.iso (f := fun x : Ent_ => (x.f0, x.f1, x.f2, x.f3)) (fun x => ⟨x.1, x.2.1, x.2.2.1, x.2.2.2⟩) (fun _ => rfl) h enc w base spare held fuel cs x p hx hw
def goodLine (x : OLine_) : Prop := (Lit.int .u64 x.f0).wf = true ∧ x.f1.size ≤ lim ∧ (Lit.int .i64 x.f2).wf = true
theorem opn_line : Opn Tryz.prog 37 k37 goodLine := by
  have f2 : OpnFs Tryz.prog [{ name := "Amount", type := 2, offset := 2, embedded := false, tag := "", pkgPath := "", byteOffset := 24 }] 2 (Kd.int .i64) (fun x : Int => (Lit.int .i64 x).wf = true) := OpnFs.last (P := Tryz.prog) (f := { name := "Amount", type := 2, offset := 2, embedded := false, tag := "", pkgPath := "", byteOffset := 24 }) (off := 2) (d := (Kd.int .i64)) (good := fun x : Int => (Lit.int .i64 x).wf = true) rfl (by kernel_rfl) (Opn.int Tryz.underlying2)
  have f1 : OpnFs Tryz.prog [{ name := "Request", type := 9, offset := 1, embedded := false, tag := "", pkgPath := "", byteOffset := 8 }, { name := "Amount", type := 2, offset := 2, embedded := false, tag := "", pkgPath := "", byteOffset := 24 }] 1 (Kd.pair Kd.string (Kd.int .i64)) (fun x : ByteArray × Int => x.1.size ≤ lim ∧ (Lit.int .i64 x.2).wf = true) := OpnFs.next (P := Tryz.prog) (f := { name := "Request", type := 9, offset := 1, embedded := false, tag := "", pkgPath := "", byteOffset := 8 }) (off := 1) (d := Kd.string) (good := fun x : ByteArray => x.size ≤ lim) rfl (by kernel_rfl) (Opn.string Tryz.underlying9) f2
  have f0 : OpnFs Tryz.prog [{ name := "Number", type := 22, offset := 0, embedded := false, tag := "", pkgPath := "", byteOffset := 0 }, { name := "Request", type := 9, offset := 1, embedded := false, tag := "", pkgPath := "", byteOffset := 8 }, { name := "Amount", type := 2, offset := 2, embedded := false, tag := "", pkgPath := "", byteOffset := 24 }] 0 (Kd.pair (Kd.int .u64) (Kd.pair Kd.string (Kd.int .i64))) (fun x : Int × ByteArray × Int => (Lit.int .u64 x.1).wf = true ∧ x.2.1.size ≤ lim ∧ (Lit.int .i64 x.2.2).wf = true) := OpnFs.next (P := Tryz.prog) (f := { name := "Number", type := 22, offset := 0, embedded := false, tag := "", pkgPath := "", byteOffset := 0 }) (off := 0) (d := (Kd.int .u64)) (good := fun x : Int => (Lit.int .u64 x).wf = true) rfl (by kernel_rfl) (Opn.int Tryz.underlying22) f1
  have h : Opn Tryz.prog 37 (Kd.pair (Kd.int .u64) (Kd.pair Kd.string (Kd.int .i64))) (fun x : Int × ByteArray × Int => (Lit.int .u64 x.1).wf = true ∧ x.2.1.size ≤ lim ∧ (Lit.int .i64 x.2.2).wf = true) := by
    intro H enc w base spare held fuel cs x p hx hw
    exact Opn.struct Tryz.underlying37 (by kernel_rfl) f0 enc w base spare held fuel cs x p hx hw
  intro H enc w base spare held fuel cs x p hx hw
  exact Opn.iso (f := fun x : OLine_ => (x.f0, x.f1, x.f2)) (fun x => ⟨x.1, x.2.1, x.2.2⟩) (fun _ => rfl) h enc w base spare held fuel cs x p hx hw
theorem opn_slip : Opn Tryz.prog 25 (Kd.pair Kd.string (Kd.pair Kd.string (Kd.pair (Kd.int .u64) (Kd.pair (Kd.int .i64) (Kd.pair (Kd.slice 37 k37) (Kd.int .i64)))))) (fun x : ByteArray × ByteArray × Int × Int × List OLine_ × Int => x.1.size ≤ lim ∧ x.2.1.size ≤ lim ∧ (Lit.int .u64 x.2.2.1).wf = true ∧ (Lit.int .i64 x.2.2.2.1).wf = true ∧ ((∀ a ∈ x.2.2.2.2.1, goodLine a) ∧ x.2.2.2.2.1.length * Tryz.prog.bytesOf 37 ≤ lim) ∧ (Lit.int .i64 x.2.2.2.2.2).wf = true) := by
  have f5 : OpnFs Tryz.prog [{ name := "Close", type := 2, offset := 5, embedded := false, tag := "", pkgPath := "", byteOffset := 72 }] 5 (Kd.int .i64) (fun x : Int => (Lit.int .i64 x).wf = true) := OpnFs.last (P := Tryz.prog) (f := { name := "Close", type := 2, offset := 5, embedded := false, tag := "", pkgPath := "", byteOffset := 72 }) (off := 5) (d := (Kd.int .i64)) (good := fun x : Int => (Lit.int .i64 x).wf = true) rfl (by kernel_rfl) (Opn.int Tryz.underlying2)
  have f4 : OpnFs Tryz.prog [{ name := "Lines", type := 23, offset := 4, embedded := false, tag := "", pkgPath := "", byteOffset := 48 }, { name := "Close", type := 2, offset := 5, embedded := false, tag := "", pkgPath := "", byteOffset := 72 }] 4 (Kd.pair (Kd.slice 37 k37) (Kd.int .i64)) (fun x : List OLine_ × Int => ((∀ a ∈ x.1, goodLine a) ∧ x.1.length * Tryz.prog.bytesOf 37 ≤ lim) ∧ (Lit.int .i64 x.2).wf = true) := OpnFs.next (P := Tryz.prog) (f := { name := "Lines", type := 23, offset := 4, embedded := false, tag := "", pkgPath := "", byteOffset := 48 }) (off := 4) (d := (Kd.slice 37 k37)) (good := fun x : List OLine_ => ((∀ a ∈ x, goodLine a) ∧ x.length * Tryz.prog.bytesOf 37 ≤ lim)) rfl (by kernel_rfl) ((Opn.slice Tryz.underlying23 (by kernel_rfl) opn_line)) f5
  have f3 : OpnFs Tryz.prog [{ name := "Open", type := 2, offset := 3, embedded := false, tag := "", pkgPath := "", byteOffset := 40 }, { name := "Lines", type := 23, offset := 4, embedded := false, tag := "", pkgPath := "", byteOffset := 48 }, { name := "Close", type := 2, offset := 5, embedded := false, tag := "", pkgPath := "", byteOffset := 72 }] 3 (Kd.pair (Kd.int .i64) (Kd.pair (Kd.slice 37 k37) (Kd.int .i64))) (fun x : Int × List OLine_ × Int => (Lit.int .i64 x.1).wf = true ∧ ((∀ a ∈ x.2.1, goodLine a) ∧ x.2.1.length * Tryz.prog.bytesOf 37 ≤ lim) ∧ (Lit.int .i64 x.2.2).wf = true) := OpnFs.next (P := Tryz.prog) (f := { name := "Open", type := 2, offset := 3, embedded := false, tag := "", pkgPath := "", byteOffset := 40 }) (off := 3) (d := (Kd.int .i64)) (good := fun x : Int => (Lit.int .i64 x).wf = true) rfl (by kernel_rfl) (Opn.int Tryz.underlying2) f4
  have f2 : OpnFs Tryz.prog [{ name := "Day", type := 22, offset := 2, embedded := false, tag := "", pkgPath := "", byteOffset := 32 }, { name := "Open", type := 2, offset := 3, embedded := false, tag := "", pkgPath := "", byteOffset := 40 }, { name := "Lines", type := 23, offset := 4, embedded := false, tag := "", pkgPath := "", byteOffset := 48 }, { name := "Close", type := 2, offset := 5, embedded := false, tag := "", pkgPath := "", byteOffset := 72 }] 2 (Kd.pair (Kd.int .u64) (Kd.pair (Kd.int .i64) (Kd.pair (Kd.slice 37 k37) (Kd.int .i64)))) (fun x : Int × Int × List OLine_ × Int => (Lit.int .u64 x.1).wf = true ∧ (Lit.int .i64 x.2.1).wf = true ∧ ((∀ a ∈ x.2.2.1, goodLine a) ∧ x.2.2.1.length * Tryz.prog.bytesOf 37 ≤ lim) ∧ (Lit.int .i64 x.2.2.2).wf = true) := OpnFs.next (P := Tryz.prog) (f := { name := "Day", type := 22, offset := 2, embedded := false, tag := "", pkgPath := "", byteOffset := 32 }) (off := 2) (d := (Kd.int .u64)) (good := fun x : Int => (Lit.int .u64 x).wf = true) rfl (by kernel_rfl) (Opn.int Tryz.underlying22) f3
  have f1 : OpnFs Tryz.prog [{ name := "Asset", type := 9, offset := 1, embedded := false, tag := "", pkgPath := "", byteOffset := 16 }, { name := "Day", type := 22, offset := 2, embedded := false, tag := "", pkgPath := "", byteOffset := 32 }, { name := "Open", type := 2, offset := 3, embedded := false, tag := "", pkgPath := "", byteOffset := 40 }, { name := "Lines", type := 23, offset := 4, embedded := false, tag := "", pkgPath := "", byteOffset := 48 }, { name := "Close", type := 2, offset := 5, embedded := false, tag := "", pkgPath := "", byteOffset := 72 }] 1 (Kd.pair Kd.string (Kd.pair (Kd.int .u64) (Kd.pair (Kd.int .i64) (Kd.pair (Kd.slice 37 k37) (Kd.int .i64))))) (fun x : ByteArray × Int × Int × List OLine_ × Int => x.1.size ≤ lim ∧ (Lit.int .u64 x.2.1).wf = true ∧ (Lit.int .i64 x.2.2.1).wf = true ∧ ((∀ a ∈ x.2.2.2.1, goodLine a) ∧ x.2.2.2.1.length * Tryz.prog.bytesOf 37 ≤ lim) ∧ (Lit.int .i64 x.2.2.2.2).wf = true) := OpnFs.next (P := Tryz.prog) (f := { name := "Asset", type := 9, offset := 1, embedded := false, tag := "", pkgPath := "", byteOffset := 16 }) (off := 1) (d := Kd.string) (good := fun x : ByteArray => x.size ≤ lim) rfl (by kernel_rfl) (Opn.string Tryz.underlying9) f2
  have f0 : OpnFs Tryz.prog [{ name := "Who", type := 9, offset := 0, embedded := false, tag := "", pkgPath := "", byteOffset := 0 }, { name := "Asset", type := 9, offset := 1, embedded := false, tag := "", pkgPath := "", byteOffset := 16 }, { name := "Day", type := 22, offset := 2, embedded := false, tag := "", pkgPath := "", byteOffset := 32 }, { name := "Open", type := 2, offset := 3, embedded := false, tag := "", pkgPath := "", byteOffset := 40 }, { name := "Lines", type := 23, offset := 4, embedded := false, tag := "", pkgPath := "", byteOffset := 48 }, { name := "Close", type := 2, offset := 5, embedded := false, tag := "", pkgPath := "", byteOffset := 72 }] 0 (Kd.pair Kd.string (Kd.pair Kd.string (Kd.pair (Kd.int .u64) (Kd.pair (Kd.int .i64) (Kd.pair (Kd.slice 37 k37) (Kd.int .i64)))))) (fun x : ByteArray × ByteArray × Int × Int × List OLine_ × Int => x.1.size ≤ lim ∧ x.2.1.size ≤ lim ∧ (Lit.int .u64 x.2.2.1).wf = true ∧ (Lit.int .i64 x.2.2.2.1).wf = true ∧ ((∀ a ∈ x.2.2.2.2.1, goodLine a) ∧ x.2.2.2.2.1.length * Tryz.prog.bytesOf 37 ≤ lim) ∧ (Lit.int .i64 x.2.2.2.2.2).wf = true) := OpnFs.next (P := Tryz.prog) (f := { name := "Who", type := 9, offset := 0, embedded := false, tag := "", pkgPath := "", byteOffset := 0 }) (off := 0) (d := Kd.string) (good := fun x : ByteArray => x.size ≤ lim) rfl (by kernel_rfl) (Opn.string Tryz.underlying9) f1
  have h : Opn Tryz.prog 25 (Kd.pair Kd.string (Kd.pair Kd.string (Kd.pair (Kd.int .u64) (Kd.pair (Kd.int .i64) (Kd.pair (Kd.slice 37 k37) (Kd.int .i64)))))) (fun x : ByteArray × ByteArray × Int × Int × List OLine_ × Int => x.1.size ≤ lim ∧ x.2.1.size ≤ lim ∧ (Lit.int .u64 x.2.2.1).wf = true ∧ (Lit.int .i64 x.2.2.2.1).wf = true ∧ ((∀ a ∈ x.2.2.2.2.1, goodLine a) ∧ x.2.2.2.2.1.length * Tryz.prog.bytesOf 37 ≤ lim) ∧ (Lit.int .i64 x.2.2.2.2.2).wf = true) := by
    intro H enc w base spare held fuel cs x p hx hw
    exact Opn.struct Tryz.underlying25 (by kernel_rfl) f0 enc w base spare held fuel cs x p hx hw
  intro H enc w base spare held fuel cs x p hx hw
  exact h enc w base spare held fuel cs x p hx hw
def goodSlip (who asset : ByteArray) (day op : Int) (l : List OLine_) (cl : Int) : Prop := who.size ≤ lim ∧ asset.size ≤ lim ∧ (Lit.int .u64 day).wf = true ∧ (Lit.int .i64 op).wf = true ∧ ((∀ a ∈ l, goodLine a) ∧ l.length * Tryz.prog.bytesOf 37 ≤ lim) ∧ (Lit.int .i64 cl).wf = true
theorem open_slip {H : Type} {enc : TypeId × Value → H} {W : World} {base b0 : Nat} {r : Reach} {spare : Nat → Bool} {held : Bool} {v : Value} {x : DataW H} {p : List MemPlace} (hv : Value.okWide Tryz.prog W r b0 25 v)
    (h : DataW.Trod enc Tryz.prog W base spare held 25 v x p) (hw : ∀ n ∈ x.weights Tryz.prog 25, n ≤ lim) :
    ∃ (who asset : ByteArray) (day op : Int) (A : Option Addr) (c : Nat) (l : List OLine_) (cl : Int), v = .agg #[.string who, .string asset, .int .u64 day, .int .i64 op, .slice A l.length c, .int .i64 cl] ∧ Kd.C k37 W A l.length l ∧ l.length ≤ c ∧ goodSlip who asset day op l cl := by
  obtain ⟨cs, rfl, _⟩ := okWide_struct Tryz.underlying25 hv
  obtain ⟨fuel, hf⟩ := h
  obtain ⟨⟨who, asset, day, op, l, cl⟩, hK, hg⟩ := opn_slip enc W base spare held fuel _ x p hf hw
  obtain ⟨_, _, e, rfl, _, _, rfl, rfl, _, _, rfl, rfl, _, _, rfl, rfl, _, _, rfl, ⟨A, c, rfl, hl, hC⟩, rfl⟩ := hK
  refine ⟨who, asset, day, op, A, c, l, cl, ?_, hC, hl, hg⟩
  congr 1
  apply Array.ext'
  exact e
end Go.Proofs.YtnngbnhbmgdkoaaGreatDoor.E
