/- What stands at the head of layer 12's statements, reckoned. -/
import Derived.Test.YtjlifcbddednaaaDoorJSum
import Derived.Test.YtjlifcbddednaaaDoorJRead
import Derived.Test.YtjlifcbddednaaaDoorPx11
namespace Go.Proofs.YtjlifcbddednaaaDoor.E
open Go.RowKit Go.Proofs.YtjlifcbddednaaaDoor.P Go.Proofs.YtjlifcbddednaaaDoorW.PrintWords Go.Proofs.YtjlifcbddednaaaDoorW.PrintLast
def aLegs : List Leg_ := [⟨⟨#[97, 110, 110]⟩, ⟨#[85, 83, 68]⟩, 5⟩, ⟨⟨#[98, 111, 98]⟩, ⟨#[85, 83, 68]⟩, -5⟩]
def aP0 : S36 := ⟨⟨#[101, 124, 48, 48, 48, 48, 48, 48, 48, 48, 48, 48, 48, 48, 48, 48, 48, 55, 124, 48]⟩, ⟨#[48, 48, 48, 48, 48, 48, 48, 48, 48, 48, 48, 48, 48, 48, 48, 49, 124, 82, 124, 50]⟩⟩
def aP1 : S36 := ⟨⟨#[101, 124, 48, 48, 48, 48, 48, 48, 48, 48, 48, 48, 48, 48, 48, 48, 48, 55, 124, 49, 48, 48, 48, 48]⟩, ⟨#[97, 110, 110, 124, 85, 83, 68, 124, 53]⟩⟩
def aP2 : S36 := ⟨⟨#[101, 124, 48, 48, 48, 48, 48, 48, 48, 48, 48, 48, 48, 48, 48, 48, 48, 55, 124, 49, 48, 48, 48, 49]⟩, ⟨#[98, 111, 98, 124, 85, 83, 68, 124, 45, 53]⟩⟩
def aEnt : Ent_ := ⟨7, 1, ⟨#[82]⟩, aLegs⟩
set_option maxRecDepth 100000 in
theorem a_pairs : journal_Pairs.f 20 7 1 ⟨#[82]⟩ aLegs = some ([aP0, aP1, aP2], 0) := by kernel_rfl
set_option maxRecDepth 100000 in
theorem a_read : journal_Read.f 20 [aP0, aP1, aP2] = some ([aEnt], 0) := by kernel_rfl
set_option maxRecDepth 100000 in
theorem a_read1 : journal_Read.f 20 [aP0] = some ([], 121) := by kernel_rfl
set_option maxRecDepth 100000 in
theorem a_sum : journal_Sum.f [aEnt] ⟨#[97, 110, 110]⟩ ⟨#[85, 83, 68]⟩ 1 2 = some (5, 0) := by kernel_rfl
set_option maxRecDepth 100000 in
theorem a_check : journal_Check.f 7 1 ⟨#[82]⟩ aLegs = some 0 := by kernel_rfl
set_option maxRecDepth 100000 in
theorem a_check0 : journal_Check.f 0 0 ⟨#[]⟩ [] = some 120 := by kernel_rfl
end Go.Proofs.YtjlifcbddednaaaDoor.E
