-- Laid by wip/tools/cprint.py of this claim's own repo (over the kit's print).
import Derived.Test.YtnngbnhbmgdkoaaGreatDoorSq
import Derived.Test.YtnngbnhbmgdkoaaGreatDoorPx0
import Derived.Test.YtnngbnhbmgdkoaaGreatDoorPx7
import Derived.Test.YtnngbnhbmgdkoaaGreatDoorPx8
namespace Go.Proofs.YtnngbnhbmgdkoaaGreatDoor.P
open Go.RowKit Go.Proofs.YtnngbnhbmgdkoaaGreatDoor.E Go.Proofs.YtnngbnhbmgdkoaaGreatDoorW.PrintWords Go.Proofs.YtnngbnhbmgdkoaaGreatDoorW.PrintLast
set_option linter.unusedVariables false
set_option linter.unusedSimpArgs false

/-! ### cambistref19_Parse: function 9 -/
mutual
def cambistref19_Parse.j0 : Nat → ByteArray → List ByteArray → List ByteArray → List ByteArray → List ByteArray → Bool → Option (ByteArray × ByteArray × Int × Int × (List (S37)) × Int × Int)
 | 0, _, _, _, _, _, _ => none
 | k + 1, x0, x4, x5, x6, x7, x46 => if x46 = true then (some ((⟨#[]⟩ : ByteArray), (⟨#[]⟩ : ByteArray), 0, 0, ([] : List (S37)), 0, 190)) else (if 1 < (x5.length : Int) then (if 2 < (x5.length : Int) then (if 3 < (x5.length : Int) then ((cambistref19_Unsigned.f k (rdOf ByteArray.empty x5 3)).bind fun t256 => (if 1 < (x6.length : Int) then ((cambistref19_amount.f k (rdOf ByteArray.empty x6 1)).bind fun t258 => (if 1 < (x7.length : Int) then ((cambistref19_amount.f k (rdOf ByteArray.empty x7 1)).bind fun t260 => (cambistref19_Parse.l0 k x0 x4 2 (rdOf ByteArray.empty x5 1) (rdOf ByteArray.empty x5 2) t256 t258 ([] : List (S37)) t260)) else (none))) else (none))) else (none)) else (none)) else (none))
def cambistref19_Parse.l0 : Nat → ByteArray → List ByteArray → Int → ByteArray → ByteArray → Int → Int → List (S37) → Int → Option (ByteArray × ByteArray × Int × Int × (List (S37)) × Int × Int)
 | 0, _, _, _, _, _, _, _, _, _ => none
 | k + 1, x0, x4, x9, x262000, x262001, x262002, x262003, x262004, x262005 => if x9 < (wrap64 ((x4.length : Int) - 1)) then (if 0 ≤ x9 then (if x9 < (x4.length : Int) then ((cambistref19_Words.f k (rdOf ByteArray.empty x4 x9)).bind fun t265 => (if (t265.length : Int) = 4 then (if 1 < (t265.length : Int) then ((cambistref19_Unsigned.f k (rdOf ByteArray.empty t265 1)).bind fun t269 => (if 2 < (t265.length : Int) then (if 3 < (t265.length : Int) then ((cambistref19_amount.f k (rdOf ByteArray.empty t265 3)).bind fun t272 => (if x262004.length < 4398046511104 then (cambistref19_Parse.l0 k x0 x4 (wrap64 (x9 + 1)) x262000 x262001 x262002 x262003 (x262004 ++ [(⟨t269, rdOf ByteArray.empty t265 2, t272⟩ : S37)]) x262005) else (none))) else (none)) else (none))) else (none)) else (some ((⟨#[]⟩ : ByteArray), (⟨#[]⟩ : ByteArray), 0, 0, ([] : List (S37)), 0, 190)))) else (none)) else (none)) else ((cambistref19_Text.f k x262000 x262001 x262002 x262003 x262004 x262005).bind fun bt262 => (if bt262.2 = 0 then (if bt262.1.toList = x0.toList then (some (x262000, x262001, x262002, x262003, x262004, x262005, 0)) else (some ((⟨#[]⟩ : ByteArray), (⟨#[]⟩ : ByteArray), 0, 0, ([] : List (S37)), 0, 190))) else (some ((⟨#[]⟩ : ByteArray), (⟨#[]⟩ : ByteArray), 0, 0, ([] : List (S37)), 0, 190))))
end
def cambistref19_Parse.f (k : Nat) (a0 : ByteArray) : Option (ByteArray × ByteArray × Int × Int × (List (S37)) × Int × Int) := (cambistref19_lines.f k a0).bind fun t238 => (if (t238.length : Int) < 3 then (some ((⟨#[]⟩ : ByteArray), (⟨#[]⟩ : ByteArray), 0, 0, ([] : List (S37)), 0, 190)) else (if 0 < (t238.length : Int) then ((cambistref19_Words.f k (rdOf ByteArray.empty t238 0)).bind fun t242 => (if 1 < (t238.length : Int) then ((cambistref19_Words.f k (rdOf ByteArray.empty t238 1)).bind fun t246 => (if 0 ≤ (wrap64 ((t238.length : Int) - 1)) then (if (wrap64 ((t238.length : Int) - 1)) < (t238.length : Int) then ((cambistref19_Words.f k (rdOf ByteArray.empty t238 (wrap64 ((t238.length : Int) - 1)))).bind fun t250 => (if (t242.length : Int) = 4 then (if (t246.length : Int) = 2 then (cambistref19_Parse.j0 k a0 t238 t242 t246 t250 ((t250.length : Int) != 2)) else (cambistref19_Parse.j0 k a0 t238 t242 t246 t250 true)) else (cambistref19_Parse.j0 k a0 t238 t242 t246 t250 true))) else (none)) else (none))) else (none))) else (none)))
theorem cambistref19_Parse.mono_l : ∀ k, (∀ y0 y1 y2 y3 y4 y5, LeO (cambistref19_Parse.j0 k y0 y1 y2 y3 y4 y5) (cambistref19_Parse.j0 (k + 1) y0 y1 y2 y3 y4 y5)) ∧ (∀ y0 y1 y2 y3 y4 y5 y6 y7 y8, LeO (cambistref19_Parse.l0 k y0 y1 y2 y3 y4 y5 y6 y7 y8) (cambistref19_Parse.l0 (k + 1) y0 y1 y2 y3 y4 y5 y6 y7 y8))
 | 0 => ⟨fun _ _ _ _ _ _ r h => by simp [cambistref19_Parse.j0] at h, fun _ _ _ _ _ _ _ _ _ r h => by simp [cambistref19_Parse.l0] at h⟩
 | k + 1 => by
  obtain ⟨ih0, ih1⟩ := cambistref19_Parse.mono_l k
  refine ⟨?_, ?_⟩
  ·intro y0 y1 y2 y3 y4 y5
   unfold cambistref19_Parse.j0
   repeat' first
   | (with_reducible exact ih0 _ _ _ _ _ _)
   | (with_reducible exact ih1 _ _ _ _ _ _ _ _ _)
   | (with_reducible exact cambistref19_Text.mono _ _ _ _ _ _ _)
   | (with_reducible exact cambistref19_Unsigned.mono _ _)
   | (with_reducible exact cambistref19_Words.mono _ _)
   | (with_reducible exact cambistref19_amount.mono _ _)
   | (with_reducible exact cambistref19_lines.mono _ _)
   | (with_reducible first | exact LeO.refl _ | exact LeO.none _ | refine LeO.ite ?_ ?_ | refine LeO.bind ?_ fun _ => ?_)
   | exact ih0 _ _ _ _ _ _
   | exact ih1 _ _ _ _ _ _ _ _ _
   | exact cambistref19_Text.mono _ _ _ _ _ _ _
   | exact cambistref19_Unsigned.mono _ _
   | exact cambistref19_Words.mono _ _
   | exact cambistref19_amount.mono _ _
   | exact cambistref19_lines.mono _ _
  ·intro y0 y1 y2 y3 y4 y5 y6 y7 y8
   unfold cambistref19_Parse.l0
   repeat' first
   | (with_reducible exact ih0 _ _ _ _ _ _)
   | (with_reducible exact ih1 _ _ _ _ _ _ _ _ _)
   | (with_reducible exact cambistref19_Text.mono _ _ _ _ _ _ _)
   | (with_reducible exact cambistref19_Unsigned.mono _ _)
   | (with_reducible exact cambistref19_Words.mono _ _)
   | (with_reducible exact cambistref19_amount.mono _ _)
   | (with_reducible exact cambistref19_lines.mono _ _)
   | (with_reducible first | exact LeO.refl _ | exact LeO.none _ | refine LeO.ite ?_ ?_ | refine LeO.bind ?_ fun _ => ?_)
   | exact ih0 _ _ _ _ _ _
   | exact ih1 _ _ _ _ _ _ _ _ _
   | exact cambistref19_Text.mono _ _ _ _ _ _ _
   | exact cambistref19_Unsigned.mono _ _
   | exact cambistref19_Words.mono _ _
   | exact cambistref19_amount.mono _ _
   | exact cambistref19_lines.mono _ _
theorem cambistref19_Parse.mono : ∀ a0 k, LeO (cambistref19_Parse.f k a0) (cambistref19_Parse.f (k + 1) a0) := by
 intro a0 k
 obtain ⟨ih0, ih1⟩ := cambistref19_Parse.mono_l k
 unfold cambistref19_Parse.f
 repeat' first
   | (with_reducible exact ih0 _ _ _ _ _ _)
   | (with_reducible exact ih1 _ _ _ _ _ _ _ _ _)
   | (with_reducible exact cambistref19_Text.mono _ _ _ _ _ _ _)
   | (with_reducible exact cambistref19_Unsigned.mono _ _)
   | (with_reducible exact cambistref19_Words.mono _ _)
   | (with_reducible exact cambistref19_amount.mono _ _)
   | (with_reducible exact cambistref19_lines.mono _ _)
   | (with_reducible first | exact LeO.refl _ | exact LeO.none _ | refine LeO.ite ?_ ?_ | refine LeO.bind ?_ fun _ => ?_)
   | exact ih0 _ _ _ _ _ _
   | exact ih1 _ _ _ _ _ _ _ _ _
   | exact cambistref19_Text.mono _ _ _ _ _ _ _
   | exact cambistref19_Unsigned.mono _ _
   | exact cambistref19_Words.mono _ _
   | exact cambistref19_amount.mono _ _
   | exact cambistref19_lines.mono _ _

end Go.Proofs.YtnngbnhbmgdkoaaGreatDoor.P
