/- What label.Who, Asset, Word answer; and that the document's answers are the same. -/
import Derived.Test.YtnngbnhbmgdkoaaGreatDoorBytes
import Derived.Test.YtnngbnhbmgdkoaaGreatDoorPx2
import Derived.Test.YtnngbnhbmgdkoaaGreatDoorPx2
import Derived.Test.YtnngbnhbmgdkoaaGreatDoorPx2
namespace Go.Proofs.YtnngbnhbmgdkoaaGreatDoor.E
open Go.RowKit Go.Proofs.YtnngbnhbmgdkoaaGreatDoor.P Go.Proofs.YtnngbnhbmgdkoaaGreatDoorW.PrintWords Go.Proofs.YtnngbnhbmgdkoaaGreatDoorW.PrintLast

theorem head_one (s : ByteArray) (c : UInt8) (t : List UInt8) (h : s.data.toList = c :: t) : (s.extract 0 1).data.toList = [c] := by
  rw [Lib.extract_data, h]
  simp
theorem who_some (s : ByteArray) (hs : s.size ≤ 140737488351232) : label_Who.f s = some (isWho s) := by
  have e : label_Who.f s = (label_of.f s 8 [sLow, sDig]).bind fun t => if t = true then (if (0 : Int) ≤ 1 then (if 1 ≤ (s.size : Int) then ((label_of.f (s.extract 0 1) 1 [sLow]).bind fun t => some t) else none) else none) else some false := rfl
  rw [e, of_who s 8 hs]
  simp only [Option.bind_some]
  cases hl : s.data.toList with
  | nil =>
    have h0 : s.size = 0 := by rw [← size_len, hl]; rfl
    rw [if_neg (by unfold isPart; rw [h0]; simp)]
    unfold isWho
    rw [hl]
  | cons c t =>
    have hn : s.size = t.length + 1 := by rw [← size_len, hl]; rfl
    have h1 := head_one s c t hl
    have hx : (s.extract 0 1).size = 1 := by rw [← size_len, h1]; rfl
    rw [of_low _ _ (by omega)]
    have e2 : isPart isLow 1 (s.extract 0 1) = isLow c := by
      unfold isPart
      rw [h1, hx]
      simp
    have e3 : isPart (fun c => isLow c || isDig c) 8 s = ((isLow c || isDig c) && (t.all fun c => isLow c || isDig c) && decide (t.length + 1 ≤ 8)) := by
      unfold isPart
      rw [hl, hn, List.all_cons]
      have : decide (1 ≤ t.length + 1) = true := by simp
      rw [this, Bool.true_and]
      congr 1
      rw [Bool.eq_iff_iff]; simp; omega
    have e4 : isWho s = (isLow c && (t.all fun c => isLow c || isDig c) && decide (t.length + 1 ≤ 8)) := by
      unfold isWho
      rw [hl]
    rw [e2, e3, e4]
    simp only [Option.bind_some]
    cases isLow c <;> cases isDig c <;> cases (t.all fun c => isLow c || isDig c) <;> cases decide (t.length + 1 ≤ 8) <;> simp [show (1 : Int) ≤ (s.size : Int) by omega]
theorem asset_some (s : ByteArray) (hs : s.size ≤ 140737488351232) : label_Asset.f s = some (isPart isUp 6 s) := by
  have e : label_Asset.f s = (label_of.f s 6 [sUp]).bind fun t => some t := rfl
  rw [e, of_up s 6 hs]
  rfl
theorem word_some (s : ByteArray) (hs : s.size ≤ 140737488351232) : label_Word.f s = some (isPart isSign 12 s) := by
  have e : label_Word.f s = (label_of.f s 12 [sLow, sUp, sDig, sDash]).bind fun t => some t := rfl
  rw [e, of_sign s 12 hs]
  rfl
end Go.Proofs.YtnngbnhbmgdkoaaGreatDoor.E
