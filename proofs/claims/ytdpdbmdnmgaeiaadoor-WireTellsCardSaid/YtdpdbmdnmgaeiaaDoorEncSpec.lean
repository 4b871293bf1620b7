/- A command's bytes, in plain words. -/
import Derived.Test.YtdpdbmdnmgaeiaaDoorSpec20
import Derived.Test.YtdpdbmdnmgaeiaaDoorLib
import Derived.Test.YtdpdbmdnmgaeiaaDoorWWords
namespace Go.Proofs.YtdpdbmdnmgaeiaaDoor.E
open Go.RowKit Go.Proofs.YtdpdbmdnmgaeiaaDoorW.PrintWords Go.Proofs.YtdpdbmdnmgaeiaaDoorW.PrintLast
/-- Word i of a command, as a text. -/
def wordOf (rq wh sc mk : ByteArray) (pr am nu : Int) (i : Nat) : ByteArray :=
  match i with
  | 0 => rq
  | 1 => wh
  | 2 => sc
  | 3 => mk
  | 4 => ⟨(intText pr).toArray⟩
  | 5 => ⟨(intText am).toArray⟩
  | _ => ⟨(decText nu.toNat).toArray⟩
/-- The words that a kind has, of the first n. -/
def wordsTo (k : Int) (rq wh sc mk : ByteArray) (pr am nu : Int) (n : Nat) : List ByteArray := ((List.range n).filter (hasW k)).map (wordOf rq wh sc mk pr am nu)
def firstOf (k : Int) : ByteArray := firsts.getD k.toNat ByteArray.empty
/-- The text as it grows: the first word, then a blank and each word. -/
def textTo (k : Int) (rq wh sc mk : ByteArray) (pr am nu : Int) : Nat → ByteArray
  | 0 => firstOf k
  | n + 1 => if hasW k n then textTo k rq wh sc mk pr am nu n ++ ⟨#[32]⟩ ++ wordOf rq wh sc mk pr am nu n else textTo k rq wh sc mk pr am nu n
def encB (k : Int) (rq wh sc mk : ByteArray) (pr am nu : Int) : ByteArray := textTo k rq wh sc mk pr am nu 7
def wire_Encode.f (k : Int) (rq wh sc mk : ByteArray) (pr am nu : Int) : Option (List Int × Int) :=
  if fewS rq wh sc mk ∧ 0 ≤ nu then some (if okCmd k rq wh sc mk pr am nu then (bytesOf (encB k rq wh sc mk pr am nu), 0) else ([], 200)) else none
def cambistref20_Encode.f (k : Int) (rq wh sc mk : ByteArray) (pr am nu : Int) : Option (List Int × Int) := wire_Encode.f k rq wh sc mk pr am nu
/-- What a command that may be says of its numbers. -/
theorem ok_numbers {k : Int} {rq wh sc mk : ByteArray} {pr am nu : Int} (h : okCmd k rq wh sc mk pr am nu = true) : (1 ≤ k ∧ k ≤ 13) ∧ in64 pr ∧ in64 am ∧ nu ≤ 4611686018427387904 := by
  unfold okCmd at h
  simp only [Bool.and_eq_true, decide_eq_true_eq] at h
  obtain ⟨⟨h1, h2⟩, h3⟩ := h
  have ok := fun i (hi : i < 7) => List.all_eq_true.1 h3 i (List.mem_range.2 hi)
  have e4 := ok 4 (by omega)
  have e5 := ok 5 (by omega)
  have e6 := ok 6 (by omega)
  unfold okW at e4 e5 e6
  refine ⟨⟨h1, h2⟩, ?_, ?_, ?_⟩
  · split at e4
    · simp only [mayW, Bool.and_eq_true, decide_eq_true_eq] at e4
      unfold in64
      omega
    · simp only [noneW, beq_iff_eq] at e4
      unfold in64
      omega
  · split at e5
    · simp only [mayW, Bool.and_eq_true, decide_eq_true_eq] at e5
      have : mostOf k ≤ 1099511627776 := by unfold mostOf; split <;> omega
      unfold in64
      omega
    · simp only [noneW, beq_iff_eq] at e5
      unfold in64
      omega
  · split at e6
    · simpa only [mayW, decide_eq_true_eq] using e6
    · simp only [noneW, beq_iff_eq] at e6
      omega
end Go.Proofs.YtdpdbmdnmgaeiaaDoor.E
