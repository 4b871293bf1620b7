/- The closures of slip.Text: a number's digits; a line that is written. -/
import Derived.Test.YtnngbnhbmgdkoaaGreatDoorUint
import Derived.Test.YtnngbnhbmgdkoaaGreatDoorLib
import Derived.Test.YtnngbnhbmgdkoaaGreatDoorEv
import Derived.Shelf.Strings.Builder1
import Derived.Shelf.Strings.BuilderX
import Derived.WalkKit
import Derived.Lib.Hide
namespace Go.Proofs.YtnngbnhbmgdkoaaGreatDoor.E
open Go.RowKit Go.Proofs.YtnngbnhbmgdkoaaGreatDoorW.PrintWords Go.Proofs.YtnngbnhbmgdkoaaGreatDoorW.PrintLast
def decOf (n : Int) : ByteArray := ⟨(decText n.toNat).toArray⟩
theorem decimal_calls (n : Int) (h0 : 0 ≤ n) (h1 : n < 18446744073709551616) (w : World) (hG : Glob w) :
    Calls Tryz.prog 14 #[.int .u64 n] w fun e w' => e = .returned (.string (decOf n)) ∧ Below w.heap.size w w' := by
  have HC := Lib.hid (strconv_FormatUint.calls n (decOf n) w hG (if_pos ⟨h0, h1⟩))
  clear hG
  go_enter Tryz.func14, Tryz.ntmps14
  go_wp2_with (go_at_call 15; refine (HC.out).mono ?_; rintro e w' ⟨rfl, hb⟩)
  go_ret
  exact ⟨rfl, hb⟩
/-- A builder that holds these bytes. -/
def Bld (B b : Nat) (l : List UInt8) (w : World) : Prop := Lib.IsBuilder 50 5 B b (Lib.byteCells l) w
theorem bldAt_below {B b : Nat} {p : Value} {bs : List Value} {w w' : World} (h : Lib.BuilderAt 50 5 B b p bs w) (hb : Below w.heap.size w w') : Lib.BuilderAt 50 5 B b p bs w' := by
  have hlt := h.lt
  obtain ⟨h1, v, h2, h3, h4⟩ := h
  exact ⟨h1, v, (hb.block b hlt).trans h2, h3.kept (grown_of_below hb none) (by cases v.ownBlock <;> simp), h4⟩
theorem Bld.below {B b : Nat} {l : List UInt8} {w w' : World} (h : Bld B b l w) (hb : Below w.heap.size w w') : Bld B b l w' :=
  Or.elim h (fun h => .inl (bldAt_below h hb)) (fun h => .inr (bldAt_below h hb))
theorem Bld.lt {B b : Nat} {l : List UInt8} {w : World} (h : Bld B b l w) : b < w.heap.size := Or.elim h (fun h => h.lt) (fun h => h.lt)
theorem Bld.base {B b : Nat} {l : List UInt8} {w : World} (h : Bld B b l w) : B ≤ b := Or.elim h (fun h => h.1) (fun h => h.1)
/-- (*strings.Builder).WriteString. -/
theorem write_calls (B b : Nat) (l : List UInt8) (s : ByteArray) (w : World) (h : Bld B b l w) (hlen : l.length + s.size ≤ 140737488355328) :
    Calls Tryz.prog 17 #[.pointer (some ⟨b, 0, none⟩), .string s] w fun e w' => e = .returned (.tuple #[.int .i64 s.size, .nilIface]) ∧ Bld B b (l ++ s.data.toList) w' ∧ Below B w w' := by
  have hb := h.lt
  have h0 := h.base
  refine (Any.Builder_WriteString { Tryz.lays156 with } Tryz.Builder_Extra_156 B b (Lib.byteCells l) s w h (by rw [Lib.byteCells_length]; exact hlen) (by omega)).mono ?_
  rintro e w' ⟨rfl, h1, h2⟩
  refine ⟨rfl, .inr ?_, h2⟩
  rw [Lib.byteCells_append]
  exact h1
/-- A line of words. -/
def lineOf (ws : List ByteArray) : List UInt8 := (joinB ws ⟨#[32]⟩).data.toList ++ [10]
set_option maxHeartbeats 1000000 in
theorem line_calls (B b : Nat) (l : List UInt8) (A : Option Addr) (c : Nat) (ws : List ByteArray) (w : World) (hG : Glob w) (h : Bld B b l w) (hC : Kd.C Kd.string w A ws.length ws) (hc : ws.length ≤ c) (hl : l.length ≤ 100000000) (hw : ws.length ≤ 1000) (hj : (joinB ws ⟨#[32]⟩).size ≤ 1000000) :
    Calls Tryz.prog 16 #[.slice A ws.length c, .pointer (some ⟨b, 0, none⟩)] w fun e w' => e = .returned (.tuple #[]) ∧ Bld B b (l ++ lineOf ws) w' ∧ Below B w w' := by
  have hB := h.base
  have hlt := h.lt
  have HJ : Hid (Calls Tryz.prog 18 #[.slice A ws.length c, .string ⟨#[32]⟩] w fun e w' => e = .returned (.string (joinB ws ⟨#[32]⟩)) ∧ Below w.heap.size w w') := Lib.hid (strings_Join.calls A c ws ⟨#[32]⟩ _ w hG hC hc (by
    unfold strings_Join.f
    refine if_pos ⟨by omega, ?_⟩
    have : (Lib.join (ws.map (·.data.toList)) (⟨#[32]⟩ : ByteArray).data.toList).length = (joinB ws ⟨#[32]⟩).size := by
      unfold joinB
      exact List.size_toArray.symm
    rw [this]
    omega))
  obtain ⟨s, hs⟩ : ∃ s, s = joinB ws ⟨#[32]⟩ := ⟨_, rfl⟩
  have e : lineOf ws = (s ++ (⟨#[10]⟩ : ByteArray)).data.toList := by rw [hs]; simp [lineOf, ByteArray.data_append]
  rw [← hs] at HJ hj
  rw [e]
  have HW : Hid (∀ W, Bld B b l W → Calls Tryz.prog 17 #[.pointer (some ⟨b, 0, none⟩), .string (s ++ (⟨#[10]⟩ : ByteArray))] W fun e w' => e = .returned (.tuple #[.int .i64 (s ++ (⟨#[10]⟩ : ByteArray)).size, .nilIface]) ∧ Bld B b (l ++ (s ++ (⟨#[10]⟩ : ByteArray)).data.toList) w' ∧ Below B W w') :=
    Lib.hid fun W hW => write_calls B b l _ W hW (by rw [ByteArray.size_append]; show l.length + (s.size + 1) ≤ _; omega)
  have HL := Lib.hid h
  have hb2 : (9223372036854775807 < s.size + 1) = False := eq_false (by omega)
  clear hG hC hs e h
  go_enter Tryz.func16, Tryz.ntmps16
  go_wp2_with (first | (go_at_call 18; refine (HJ.out).mono ?_; rintro e w1 ⟨rfl, hb⟩; have HL1 := Lib.hid (HL.out.below hb); have HB1 := Lib.hid hb; clear hb) | (go_at_call 17; refine (HW.out _ HL1.out).mono ?_; rintro e w2 ⟨rfl, h2, h3⟩; have HL2 := Lib.hid h2; have HB2 := Lib.hid h3; clear h2 h3))
  go_end0
  exact ⟨rfl, HL2.out, (HB1.out.mono (by omega)).trans HB2.out⟩
end Go.Proofs.YtnngbnhbmgdkoaaGreatDoor.E
