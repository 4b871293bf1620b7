/- label.of as a Lean function: has a text 1 to so many bytes, each one of some signs? -/
import Derived.Lib.Bytealg
namespace Go.Proofs.YtnngbnhbmgdkoaaGreatDoor.E
/-- Is a byte among some signs? -/
def inAny (l : List ByteArray) (c : UInt8) : Bool := l.any fun s => decide (0 ≤ Go.Lib.indexByte s.data.toList c)
def ofB (s : ByteArray) (most : Int) (l : List ByteArray) : Bool := s.data.toList.all (inAny l) && (decide (1 ≤ s.size) && decide ((s.size : Int) ≤ most))
def label_of.f (a0 : ByteArray) (a1 : Int) (l2 : List ByteArray) : Option Bool := if a0.size ≤ 140737488351232 then some (ofB a0 a1 l2) else none
end Go.Proofs.YtnngbnhbmgdkoaaGreatDoor.E
