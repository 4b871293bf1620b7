/- Legs, entries and pairs that came in. -/
import Derived.Test.YtjlifcbddednaaaDoorOpen
import Derived.Test.YtjlifcbddednaaaDoorJPure
import Derived.WideShapes
set_option maxRecDepth 4000
namespace Go.Proofs.YtjlifcbddednaaaDoor.E
open Go.RowKit Go.WideShapes Go.Proofs.YtjlifcbddednaaaDoor.P Go.Proofs.YtjlifcbddednaaaDoorW.PrintWords
def goodLeg (x : Leg_) : Prop := x.f0.size ≤ lim ∧ x.f1.size ≤ lim ∧ (Lit.int .i64 x.f2).wf = true
def goodPair (x : S36) : Prop := x.f0.size ≤ lim ∧ x.f1.size ≤ lim
def goodEnt (x : Ent_) : Prop := (Lit.int .u64 x.f0).wf = true ∧ (Lit.int .u64 x.f1).wf = true ∧ x.f2.size ≤ lim ∧ ((∀ a ∈ x.f3, goodLeg a) ∧ x.f3.length * Tryd.prog.bytesOf 42 ≤ lim)
theorem opn_leg : Opn Tryd.prog 42 k42 goodLeg := by
  have f2 : OpnFs Tryd.prog [{ name := "Amount", type := 2, offset := 2, embedded := false, tag := "", pkgPath := "", byteOffset := 32 }] 2 (Kd.int .i64) (fun x : Int => (Lit.int .i64 x).wf = true) := OpnFs.last (P := Tryd.prog) (f := { name := "Amount", type := 2, offset := 2, embedded := false, tag := "", pkgPath := "", byteOffset := 32 }) (off := 2) (d := (Kd.int .i64)) (good := fun x : Int => (Lit.int .i64 x).wf = true) rfl (by kernel_rfl) (Opn.int Tryd.underlying2)
  have f1 : OpnFs Tryd.prog [{ name := "Asset", type := 9, offset := 1, embedded := false, tag := "", pkgPath := "", byteOffset := 16 }, { name := "Amount", type := 2, offset := 2, embedded := false, tag := "", pkgPath := "", byteOffset := 32 }] 1 (Kd.pair Kd.string (Kd.int .i64)) (fun x : ByteArray × Int => x.1.size ≤ lim ∧ (Lit.int .i64 x.2).wf = true) := OpnFs.next (P := Tryd.prog) (f := { name := "Asset", type := 9, offset := 1, embedded := false, tag := "", pkgPath := "", byteOffset := 16 }) (off := 1) (d := Kd.string) (good := fun x : ByteArray => x.size ≤ lim) rfl (by kernel_rfl) (Opn.string Tryd.underlying9) f2
  have f0 : OpnFs Tryd.prog [{ name := "Who", type := 9, offset := 0, embedded := false, tag := "", pkgPath := "", byteOffset := 0 }, { name := "Asset", type := 9, offset := 1, embedded := false, tag := "", pkgPath := "", byteOffset := 16 }, { name := "Amount", type := 2, offset := 2, embedded := false, tag := "", pkgPath := "", byteOffset := 32 }] 0 (Kd.pair Kd.string (Kd.pair Kd.string (Kd.int .i64))) (fun x : ByteArray × ByteArray × Int => x.1.size ≤ lim ∧ x.2.1.size ≤ lim ∧ (Lit.int .i64 x.2.2).wf = true) := OpnFs.next (P := Tryd.prog) (f := { name := "Who", type := 9, offset := 0, embedded := false, tag := "", pkgPath := "", byteOffset := 0 }) (off := 0) (d := Kd.string) (good := fun x : ByteArray => x.size ≤ lim) rfl (by kernel_rfl) (Opn.string Tryd.underlying9) f1
  have h : Opn Tryd.prog 42 (Kd.pair Kd.string (Kd.pair Kd.string (Kd.int .i64))) (fun x : ByteArray × ByteArray × Int => x.1.size ≤ lim ∧ x.2.1.size ≤ lim ∧ (Lit.int .i64 x.2.2).wf = true) := by
    intro H enc w base spare held fuel cs x p hx hw
    exact Opn.struct Tryd.underlying42 (by kernel_rfl) f0 enc w base spare held fuel cs x p hx hw
  intro H enc w base spare held fuel cs x p hx hw
  exact Opn.iso (f := fun x : Leg_ => (x.f0, x.f1, x.f2)) (fun x => ⟨x.1, x.2.1, x.2.2⟩) (fun _ => rfl) h enc w base spare held fuel cs x p hx hw
theorem opn_pair : Opn Tryd.prog 36 k36 goodPair := by
  have f1 : OpnFs Tryd.prog [{ name := "Val", type := 9, offset := 1, embedded := false, tag := "", pkgPath := "", byteOffset := 16 }] 1 Kd.string (fun x : ByteArray => x.size ≤ lim) := OpnFs.last (P := Tryd.prog) (f := { name := "Val", type := 9, offset := 1, embedded := false, tag := "", pkgPath := "", byteOffset := 16 }) (off := 1) (d := Kd.string) (good := fun x : ByteArray => x.size ≤ lim) rfl (by kernel_rfl) (Opn.string Tryd.underlying9)
  have f0 : OpnFs Tryd.prog [{ name := "Key", type := 9, offset := 0, embedded := false, tag := "", pkgPath := "", byteOffset := 0 }, { name := "Val", type := 9, offset := 1, embedded := false, tag := "", pkgPath := "", byteOffset := 16 }] 0 (Kd.pair Kd.string Kd.string) (fun x : ByteArray × ByteArray => x.1.size ≤ lim ∧ x.2.size ≤ lim) := OpnFs.next (P := Tryd.prog) (f := { name := "Key", type := 9, offset := 0, embedded := false, tag := "", pkgPath := "", byteOffset := 0 }) (off := 0) (d := Kd.string) (good := fun x : ByteArray => x.size ≤ lim) rfl (by kernel_rfl) (Opn.string Tryd.underlying9) f1
  have h : Opn Tryd.prog 36 (Kd.pair Kd.string Kd.string) (fun x : ByteArray × ByteArray => x.1.size ≤ lim ∧ x.2.size ≤ lim) := by
    intro H enc w base spare held fuel cs x p hx hw
    exact Opn.struct Tryd.underlying36 (by kernel_rfl) f0 enc w base spare held fuel cs x p hx hw
  intro H enc w base spare held fuel cs x p hx hw
  exact Opn.iso (f := fun x : S36 => (x.f0, x.f1)) (fun x => ⟨x.1, x.2⟩) (fun _ => rfl) h enc w base spare held fuel cs x p hx hw
theorem opn_ent : Opn Tryd.prog 26 k26 goodEnt := by
  have f3 : OpnFs Tryd.prog [{ name := "Legs", type := 24, offset := 3, embedded := false, tag := "", pkgPath := "", byteOffset := 32 }] 3 (Kd.slice 42 k42) (fun x : List Leg_ => ((∀ a ∈ x, goodLeg a) ∧ x.length * Tryd.prog.bytesOf 42 ≤ lim)) := OpnFs.last (P := Tryd.prog) (f := { name := "Legs", type := 24, offset := 3, embedded := false, tag := "", pkgPath := "", byteOffset := 32 }) (off := 3) (d := (Kd.slice 42 k42)) (good := fun x : List Leg_ => ((∀ a ∈ x, goodLeg a) ∧ x.length * Tryd.prog.bytesOf 42 ≤ lim)) rfl (by kernel_rfl) (Opn.slice Tryd.underlying24 (by kernel_rfl) opn_leg)
  have f2 : OpnFs Tryd.prog [{ name := "Request", type := 9, offset := 2, embedded := false, tag := "", pkgPath := "", byteOffset := 16 }, { name := "Legs", type := 24, offset := 3, embedded := false, tag := "", pkgPath := "", byteOffset := 32 }] 2 (Kd.pair Kd.string (Kd.slice 42 k42)) (fun x : ByteArray × List Leg_ => x.1.size ≤ lim ∧ ((∀ a ∈ x.2, goodLeg a) ∧ x.2.length * Tryd.prog.bytesOf 42 ≤ lim)) := OpnFs.next (P := Tryd.prog) (f := { name := "Request", type := 9, offset := 2, embedded := false, tag := "", pkgPath := "", byteOffset := 16 }) (off := 2) (d := Kd.string) (good := fun x : ByteArray => x.size ≤ lim) rfl (by kernel_rfl) (Opn.string Tryd.underlying9) f3
  have f1 : OpnFs Tryd.prog [{ name := "Day", type := 23, offset := 1, embedded := false, tag := "", pkgPath := "", byteOffset := 8 }, { name := "Request", type := 9, offset := 2, embedded := false, tag := "", pkgPath := "", byteOffset := 16 }, { name := "Legs", type := 24, offset := 3, embedded := false, tag := "", pkgPath := "", byteOffset := 32 }] 1 (Kd.pair (Kd.int .u64) (Kd.pair Kd.string (Kd.slice 42 k42))) (fun x : Int × ByteArray × List Leg_ => (Lit.int .u64 x.1).wf = true ∧ x.2.1.size ≤ lim ∧ ((∀ a ∈ x.2.2, goodLeg a) ∧ x.2.2.length * Tryd.prog.bytesOf 42 ≤ lim)) := OpnFs.next (P := Tryd.prog) (f := { name := "Day", type := 23, offset := 1, embedded := false, tag := "", pkgPath := "", byteOffset := 8 }) (off := 1) (d := (Kd.int .u64)) (good := fun x : Int => (Lit.int .u64 x).wf = true) rfl (by kernel_rfl) (Opn.int Tryd.underlying23) f2
  have f0 : OpnFs Tryd.prog [{ name := "Number", type := 23, offset := 0, embedded := false, tag := "", pkgPath := "", byteOffset := 0 }, { name := "Day", type := 23, offset := 1, embedded := false, tag := "", pkgPath := "", byteOffset := 8 }, { name := "Request", type := 9, offset := 2, embedded := false, tag := "", pkgPath := "", byteOffset := 16 }, { name := "Legs", type := 24, offset := 3, embedded := false, tag := "", pkgPath := "", byteOffset := 32 }] 0 (Kd.pair (Kd.int .u64) (Kd.pair (Kd.int .u64) (Kd.pair Kd.string (Kd.slice 42 k42)))) (fun x : Int × Int × ByteArray × List Leg_ => (Lit.int .u64 x.1).wf = true ∧ (Lit.int .u64 x.2.1).wf = true ∧ x.2.2.1.size ≤ lim ∧ ((∀ a ∈ x.2.2.2, goodLeg a) ∧ x.2.2.2.length * Tryd.prog.bytesOf 42 ≤ lim)) := OpnFs.next (P := Tryd.prog) (f := { name := "Number", type := 23, offset := 0, embedded := false, tag := "", pkgPath := "", byteOffset := 0 }) (off := 0) (d := (Kd.int .u64)) (good := fun x : Int => (Lit.int .u64 x).wf = true) rfl (by kernel_rfl) (Opn.int Tryd.underlying23) f1
  have h : Opn Tryd.prog 26 (Kd.pair (Kd.int .u64) (Kd.pair (Kd.int .u64) (Kd.pair Kd.string (Kd.slice 42 k42)))) (fun x : Int × Int × ByteArray × List Leg_ => (Lit.int .u64 x.1).wf = true ∧ (Lit.int .u64 x.2.1).wf = true ∧ x.2.2.1.size ≤ lim ∧ ((∀ a ∈ x.2.2.2, goodLeg a) ∧ x.2.2.2.length * Tryd.prog.bytesOf 42 ≤ lim)) := by
    intro H enc w base spare held fuel cs x p hx hw
    exact Opn.struct Tryd.underlying26 (by kernel_rfl) f0 enc w base spare held fuel cs x p hx hw
  intro H enc w base spare held fuel cs x p hx hw
  exact Opn.iso (f := fun x : Ent_ => (x.f0, x.f1, x.f2, x.f3)) (fun x => ⟨x.1, x.2.1, x.2.2.1, x.2.2.2⟩) (fun _ => rfl) h enc w base spare held fuel cs x p hx hw
theorem open_ent {H : Type} {enc : TypeId × Value → H} {W : World} {base b0 : Nat} {r : Reach} {spare : Nat → Bool} {held : Bool} {v : Value} {x : DataW H} {p : List MemPlace} (hv : Value.okWide Tryd.prog W r b0 26 v)
    (h : DataW.Trod enc Tryd.prog W base spare held 26 v x p) (hw : ∀ n ∈ x.weights Tryd.prog 26, n ≤ lim) :
    ∃ (n d : Int) (rq : ByteArray) (A : Option Addr) (c : Nat) (l : List Leg_), v = .agg #[.int .u64 n, .int .u64 d, .string rq, .slice A l.length c] ∧ Kd.C k42 W A l.length l ∧ l.length ≤ c ∧ goodEnt ⟨n, d, rq, l⟩ := by
  obtain ⟨cs, rfl, _⟩ := okWide_struct Tryd.underlying26 hv
  obtain ⟨fuel, hf⟩ := h
  obtain ⟨⟨n, d, rq, l⟩, hK, hg⟩ := opn_ent enc W base spare held fuel _ x p hf hw
  obtain ⟨A, c, e, hl, hC⟩ := k26_open hK
  refine ⟨n, d, rq, A, c, l, ?_, hC, hl, hg⟩
  congr 1
  apply Array.ext'
  exact e
end Go.Proofs.YtjlifcbddednaaaDoor.E
