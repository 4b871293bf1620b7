/- Which bytes are in names: the signs that label.of is asked for, byte by byte. -/
import Derived.Test.YtnngbnhbmgdkoaaGreatDoorOfPure
import Derived.Test.YtnngbnhbmgdkoaaGreatDoorEv
namespace Go.Proofs.YtnngbnhbmgdkoaaGreatDoor.E
open Go.RowKit Go.Proofs.YtnngbnhbmgdkoaaGreatDoorW.PrintWords Go.Proofs.YtnngbnhbmgdkoaaGreatDoorW.PrintLast

def isLow (c : UInt8) : Bool := decide (97 ≤ c.toNat) && decide (c.toNat ≤ 122)
def isUp (c : UInt8) : Bool := decide (65 ≤ c.toNat) && decide (c.toNat ≤ 90)
def isDig (c : UInt8) : Bool := decide (48 ≤ c.toNat) && decide (c.toNat ≤ 57)
def isSign (c : UInt8) : Bool := isLow c || isUp c || isDig c || decide (c.toNat = 45)
def sLow : ByteArray := ⟨#[97, 98, 99, 100, 101, 102, 103, 104, 105, 106, 107, 108, 109, 110, 111, 112, 113, 114, 115, 116, 117, 118, 119, 120, 121, 122]⟩
def sUp : ByteArray := ⟨#[65, 66, 67, 68, 69, 70, 71, 72, 73, 74, 75, 76, 77, 78, 79, 80, 81, 82, 83, 84, 85, 86, 87, 88, 89, 90]⟩
def sDig : ByteArray := ⟨#[48, 49, 50, 51, 52, 53, 54, 55, 56, 57]⟩
def sDash : ByteArray := ⟨#[45]⟩
set_option maxRecDepth 100000 in
theorem in_all : ∀ n : Fin 256, inAny [sLow] (UInt8.ofNat n.val) = isLow (UInt8.ofNat n.val) ∧ inAny [sUp] (UInt8.ofNat n.val) = isUp (UInt8.ofNat n.val) ∧ inAny [sLow, sDig] (UInt8.ofNat n.val) = (isLow (UInt8.ofNat n.val) || isDig (UInt8.ofNat n.val)) ∧ inAny [sLow, sUp, sDig, sDash] (UInt8.ofNat n.val) = isSign (UInt8.ofNat n.val) := by decide +kernel
theorem in_low (c : UInt8) : inAny [sLow] c = isLow c := all_u8 (p := fun c => inAny [sLow] c = isLow c) (fun n => (in_all n).1) c
theorem in_up (c : UInt8) : inAny [sUp] c = isUp c := all_u8 (p := fun c => inAny [sUp] c = isUp c) (fun n => (in_all n).2.1) c
theorem in_who (c : UInt8) : inAny [sLow, sDig] c = (isLow c || isDig c) := all_u8 (p := fun c => inAny [sLow, sDig] c = (isLow c || isDig c)) (fun n => (in_all n).2.2.1) c
theorem in_sign (c : UInt8) : inAny [sLow, sUp, sDig, sDash] c = isSign c := all_u8 (p := fun c => inAny [sLow, sUp, sDig, sDash] c = isSign c) (fun n => (in_all n).2.2.2) c

/-- A text of 1 to so many bytes, each one such. -/
def isPart (p : UInt8 → Bool) (most : Int) (s : ByteArray) : Bool := s.data.toList.all p && (decide (1 ≤ s.size) && decide ((s.size : Int) ≤ most))
def isWho (s : ByteArray) : Bool := match s.data.toList with
  | [] => false
  | c :: t => isLow c && (t.all fun c => isLow c || isDig c) && decide (t.length + 1 ≤ 8)
theorem of_part {l : List ByteArray} {p : UInt8 → Bool} (h : ∀ c, inAny l c = p c) (s : ByteArray) (most : Int) (hs : s.size ≤ 140737488351232) : label_of.f s most l = some (isPart p most s) := by
  unfold label_of.f
  rw [if_pos hs]
  unfold ofB isPart
  rw [show inAny l = p from funext h]
theorem of_low (s : ByteArray) (most : Int) (hs : s.size ≤ 140737488351232) : label_of.f s most [sLow] = some (isPart isLow most s) := of_part in_low s most hs
theorem of_up (s : ByteArray) (most : Int) (hs : s.size ≤ 140737488351232) : label_of.f s most [sUp] = some (isPart isUp most s) := of_part in_up s most hs
theorem of_who (s : ByteArray) (most : Int) (hs : s.size ≤ 140737488351232) : label_of.f s most [sLow, sDig] = some (isPart (fun c => isLow c || isDig c) most s) := of_part in_who s most hs
theorem of_sign (s : ByteArray) (most : Int) (hs : s.size ≤ 140737488351232) : label_of.f s most [sLow, sUp, sDig, sDash] = some (isPart isSign most s) := of_part in_sign s most hs
end Go.Proofs.YtnngbnhbmgdkoaaGreatDoor.E
