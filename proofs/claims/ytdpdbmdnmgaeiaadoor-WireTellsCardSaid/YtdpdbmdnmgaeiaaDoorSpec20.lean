/- What layer 20 says of commands, in plain words: which words a kind has, whether a command may be, its bytes. -/
import Derived.Test.YtdpdbmdnmgaeiaaDoorBytes
import Derived.Test.YtdpdbmdnmgaeiaaDoorNumText
import Derived.Lib.IndexMore
namespace Go.Proofs.YtdpdbmdnmgaeiaaDoor.E
open Go.RowKit Go.Proofs.YtdpdbmdnmgaeiaaDoorW.PrintWords Go.Proofs.YtdpdbmdnmgaeiaaDoorW.PrintLast

/-- The words of a kind, as bits. -/
def maskOf (k : Int) : Int := [0, 39, 39, 9, 59, 59, 65, 9, 1, 1, 6, 70, 4, 0].getD k.toNat 0
def hasW (k : Int) (i : Nat) : Bool := Nat.testBit (maskOf k).toNat i
def wire_words.f (a0 : Int) : Option Int := if 0 ≤ a0 ∧ a0 ≤ 13 then some (maskOf a0) else none
def firsts : List ByteArray := [⟨#[]⟩, ⟨#[100, 101, 112, 111, 115, 105, 116]⟩, ⟨#[119, 105, 116, 104, 100, 114, 97, 119]⟩, ⟨#[109, 97, 114, 107, 101, 116]⟩, ⟨#[98, 117, 121]⟩, ⟨#[115, 101, 108, 108]⟩, ⟨#[99, 97, 110, 99, 101, 108]⟩, ⟨#[97, 117, 99, 116, 105, 111, 110]⟩, ⟨#[115, 101, 116, 116, 108, 101]⟩, ⟨#[99, 108, 111, 115, 101]⟩, ⟨#[98, 97, 108, 97, 110, 99, 101]⟩, ⟨#[115, 108, 105, 112]⟩, ⟨#[116, 111, 116, 97, 108]⟩, ⟨#[100, 97, 121]⟩]
def sWorld : ByteArray := ⟨#[119, 111, 114, 108, 100]⟩
/-- The asset and the cash of a market's name; 1: it is none. -/
def marketOf (s : ByteArray) : ByteArray × ByteArray × Int :=
  if (Lib.cut s.data.toList [45]).2.2 && isPart isUp 6 ⟨(Lib.cut s.data.toList [45]).1.toArray⟩ && isPart isUp 6 ⟨(Lib.cut s.data.toList [45]).2.1.toArray⟩ && !((Lib.cut s.data.toList [45]).1 == (Lib.cut s.data.toList [45]).2.1)
  then (⟨(Lib.cut s.data.toList [45]).1.toArray⟩, ⟨(Lib.cut s.data.toList [45]).2.1.toArray⟩, 0) else (⟨#[]⟩, ⟨#[]⟩, 1)
def isMarket (s : ByteArray) : Bool := (marketOf s).2.2 == 0
def mostOf (k : Int) : Int := if k ≤ 2 then 1099511627776 else 1000000
/-- May word i of a command be? -/
def mayW (k : Int) (rq wh as mk : ByteArray) (pr am nu : Int) (i : Nat) : Bool :=
  match i with
  | 0 => isPart isSign 12 rq
  | 1 => isWho wh && (!(wh.toList == sWorld.toList) || (decide (k ≥ 10) && decide (k ≤ 13)))
  | 2 => isPart isUp 6 as
  | 3 => isMarket mk
  | 4 => decide (pr ≥ 1) && decide (pr ≤ 1000000)
  | 5 => decide (am ≥ 1) && decide (am ≤ mostOf k)
  | _ => decide (nu ≤ 4611686018427387904)
/-- Is word i of a command not there? -/
def noneW (rq wh as mk : ByteArray) (pr am nu : Int) (i : Nat) : Bool :=
  match i with
  | 0 => rq.toList == []
  | 1 => wh.toList == []
  | 2 => as.toList == []
  | 3 => mk.toList == []
  | 4 => pr == 0
  | 5 => am == 0
  | _ => nu == 0
def okW (k : Int) (rq wh as mk : ByteArray) (pr am nu : Int) (i : Nat) : Bool := if hasW k i then mayW k rq wh as mk pr am nu i else noneW rq wh as mk pr am nu i
def okCmd (k : Int) (rq wh as mk : ByteArray) (pr am nu : Int) : Bool := decide (1 ≤ k) && decide (k ≤ 13) && (List.range 7).all (okW k rq wh as mk pr am nu)
/-- Texts of bounded size: what the walks of this layer are about. -/
def fewS (rq wh as mk : ByteArray) : Prop := rq.size ≤ 1000000 ∧ wh.size ≤ 1000000 ∧ as.size ≤ 1000000 ∧ mk.size ≤ 1000000
instance (rq wh as mk : ByteArray) : Decidable (fewS rq wh as mk) := inferInstanceAs (Decidable (_ ∧ _))
def wire_Check.f (k : Int) (rq wh as mk : ByteArray) (pr am nu : Int) : Option Int := if fewS rq wh as mk then some (if okCmd k rq wh as mk pr am nu then 0 else 200) else none
def cambistref20_Check.f (k : Int) (rq wh as mk : ByteArray) (pr am nu : Int) : Option Int := wire_Check.f k rq wh as mk pr am nu
end Go.Proofs.YtdpdbmdnmgaeiaaDoor.E
