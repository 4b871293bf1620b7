/- strings.Join and strings.Split, as this seat's walks take them. -/
import Derived.Test.YtnngbnhbmgdkoaaGreatDoorGlob
import Derived.Test.YtnngbnhbmgdkoaaGreatDoorCut
import Derived.Test.YtnngbnhbmgdkoaaGreatDoorShelf
import Derived.Test.YtnngbnhbmgdkoaaGreatDoorOf
namespace Go.Proofs.YtnngbnhbmgdkoaaGreatDoor.E
open Go.RowKit Go.Proofs.YtnngbnhbmgdkoaaGreatDoorW.PrintWords Go.Proofs.YtnngbnhbmgdkoaaGreatDoorW.PrintLast

def joinB (l : List ByteArray) (sep : ByteArray) : ByteArray := ⟨(Lib.join (l.map (·.data.toList)) sep.data.toList).toArray⟩
def strings_Join.f (l0 : List ByteArray) (a1 : ByteArray) : Option ByteArray :=
  if l0.length ≤ 140737488355328 ∧ (Lib.join (l0.map (·.data.toList)) a1.data.toList).length ≤ 140737488355328 then some (joinB l0 a1) else none
theorem spot_none {w : World} {ad : Addr} {v : Value} (h : w.cell? ad = some v) : ∃ b o, ad = ⟨b, o, none⟩ := by
  obtain ⟨b, o, s⟩ := ad
  unfold World.cell? at h
  split at h
  · split at h
    · cases h
    · rename_i hs
      cases s with
      | none => exact ⟨b, o, rfl⟩
      | some s => simp at hs
  · cases h
theorem strings_Join.calls (A0 : Option Addr) (c0 : Nat) (l0 : List ByteArray) (a1 : ByteArray) (r : ByteArray) (w : World) (_hG : Glob w) (hr0 : Kd.C Kd.string w A0 l0.length l0) (hc0 : l0.length ≤ c0) (h : strings_Join.f l0 a1 = some r) :
    Calls Tryz.prog 18 #[.slice A0 l0.length c0, .string a1] w fun e w' => e = .returned (.string r) ∧ Below w.heap.size w w' := by
  unfold strings_Join.f at h
  split at h
  case isFalse => cases h
  rename_i hb
  obtain rfl := Option.some.inj h
  rcases str_cells hr0 with h0 | ⟨ad, rfl, hc⟩
  · have hn : l0 = [] := List.eq_nil_of_length_eq_zero h0
    subst hn
    exact (Tryz.strings_Join_none A0 c0 a1 w).mono fun e w' ⟨he, hw⟩ => ⟨he.trans (by rfl), hw ▸ Below.refl _ _⟩
  · rcases Nat.eq_zero_or_pos l0.length with h0 | hp
    · have hn : l0 = [] := List.eq_nil_of_length_eq_zero h0
      subst hn
      exact (Tryz.strings_Join_none (some ad) c0 a1 w).mono fun e w' ⟨he, hw⟩ => ⟨he.trans (by rfl), hw ▸ Below.refl _ _⟩
    · have h00 := hc 0 hp
      rw [show ad.add 0 = ad from by unfold Addr.add; simp] at h00
      obtain ⟨b, o, rfl⟩ := spot_none h00
      refine Tryz.strings_Join b o c0 l0 a1 w (fun j x hj => ?_) (World.block_lt_of_cell? w _ h00) hb.1 hc0 hb.2
      have hjl : j < l0.length := (List.getElem?_eq_some_iff.1 hj).1
      have := hc j hjl
      rw [List.getD_eq_getElem?_getD, hj] at this
      rw [show (⟨b, o, none⟩ : Addr).add j = ⟨b, o + j, none⟩ from by unfold Addr.add; split <;> simp_all] at this
      exact this

/-- At a separator of one byte. -/
def strings_Split.f (a0 : ByteArray) (a1 : ByteArray) : Option (List ByteArray) :=
  if a0.size < 4294967281 then (match a1.data.toList with
    | [c] => some (splitOn a0 c)
    | _ => none) else none
theorem strings_Split.calls (a0 : ByteArray) (a1 : ByteArray) (r : List ByteArray) (w : World) (hG : Glob w) (h : strings_Split.f a0 a1 = some r) :
    Calls Tryz.prog 25 #[.string a0, .string a1] w fun e w' => ∃ v_ : Value, e = .returned v_ ∧ Kd.R Kd.string 9 w' w.heap.size (fun _ => True) v_ r ∧ Below w.heap.size w w' := by
  unfold strings_Split.f at h
  split at h
  case isFalse => cases h
  rename_i hs
  split at h
  case h_2 => cases h
  rename_i c he
  obtain rfl := Option.some.inj h
  obtain rfl : a1 = ⟨#[c]⟩ := by
    obtain ⟨d⟩ := a1
    have : d = #[c] := by simpa using congrArg List.toArray he
    rw [this]
  obtain ⟨m, hm⟩ := hG.max
  refine (Tryz.strings_Split a0 ⟨#[c]⟩ m w hs hm (Nat.le_refl _)).mono ?_
  rintro e w' ⟨rfl, rfl⟩
  rw [splitB_one, ← length_splitOn]
  have hlen : (splitOn a0 c).length ≤ 9223372036854775807 := by
    rw [length_splitOn]
    have := Lib.count_le a0.data.toList [c]
    have h2 : a0.data.toList.length = a0.size := by simp
    show Lib.count a0.data.toList [c] + 1 ≤ _
    omega
  refine ⟨_, rfl, ?_, below_alloc (Below.refl _ _) _⟩
  exact Kd.R_of_own (own_lit_of w w.heap.size 9 (splitOn a0 c) (Nat.le_refl _) hlen) (fun _ _ => trivial)
end Go.Proofs.YtnngbnhbmgdkoaaGreatDoor.E
