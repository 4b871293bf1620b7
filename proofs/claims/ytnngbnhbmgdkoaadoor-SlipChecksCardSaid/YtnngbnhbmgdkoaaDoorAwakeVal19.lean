/- What stands at the head of layer 19's statements, reckoned. -/
import Derived.Test.YtnngbnhbmgdkoaaDoorSParse
import Derived.Test.YtnngbnhbmgdkoaaDoorPx8
import Derived.Test.YtnngbnhbmgdkoaaDoorPx3
namespace Go.Proofs.YtnngbnhbmgdkoaaDoor.E
open Go.RowKit Go.Proofs.YtnngbnhbmgdkoaaDoor.P Go.Proofs.YtnngbnhbmgdkoaaDoorW.PrintWords Go.Proofs.YtnngbnhbmgdkoaaDoorW.PrintLast
def wAnn : ByteArray := ⟨#[97, 110, 110]⟩
def wUsd : ByteArray := ⟨#[85, 83, 68]⟩
def aRow : Line_ := ⟨7, ⟨#[82]⟩, -3⟩
def aEnt : Ent_ := ⟨7, 3, ⟨#[82]⟩, [⟨⟨#[97, 110, 110]⟩, ⟨#[85, 83, 68]⟩, -3⟩]⟩
def aTxt : ByteArray := ⟨#[83, 84, 65, 84, 69, 77, 69, 78, 84, 32, 97, 110, 110, 32, 85, 83, 68, 32, 51, 10, 79, 80, 69, 78, 32, 53, 10, 80, 79, 83, 84, 32, 55, 32, 82, 32, 45, 51, 10, 67, 76, 79, 83, 69, 32, 50, 10]⟩
def aCut : ByteArray := ⟨#[83, 84, 65, 84, 69, 77, 69, 78, 84, 32, 97, 110, 110, 32, 85, 83, 68, 32, 51, 10, 79, 80, 69, 78, 32, 53, 10, 80, 79, 83, 84, 32, 55, 32, 82, 32, 45, 51, 10, 67, 76, 79, 83, 69, 32, 50]⟩
set_option maxRecDepth 100000 in
theorem a_text : slip_Text.f 20 ⟨#[97, 110, 110]⟩ ⟨#[85, 83, 68]⟩ 3 5 [aRow] 2 = some (aTxt, 0) := by kernel_rfl
set_option maxRecDepth 100000 in
theorem a_text3 : slip_Text.f 20 ⟨#[97, 110, 110]⟩ ⟨#[85, 83, 68]⟩ 3 5 [aRow] 3 = some (⟨#[]⟩, 190) := by kernel_rfl
set_option maxRecDepth 100000 in
theorem a_parse : slip_Parse.f 20 aTxt = some (⟨#[97, 110, 110]⟩, ⟨#[85, 83, 68]⟩, 3, 5, [aRow], 2, 0) := by kernel_rfl
set_option maxRecDepth 100000 in
theorem a_cut : slip_Parse.f 20 aCut = some (⟨#[]⟩, ⟨#[]⟩, 0, 0, [], 0, 190) := by kernel_rfl
set_option maxRecDepth 100000 in
theorem a_same : cambistref19_Same.f 20 ⟨#[97, 110, 110]⟩ ⟨#[85, 83, 68]⟩ 3 5 [aRow] 2 ⟨#[97, 110, 110]⟩ ⟨#[85, 83, 68]⟩ 3 5 [aRow] 2 = some true := by kernel_rfl
set_option maxRecDepth 100000 in
theorem a_make : slip_Make.f 20 [aEnt] ⟨#[97, 110, 110]⟩ ⟨#[85, 83, 68]⟩ 3 = some (⟨#[97, 110, 110]⟩, ⟨#[85, 83, 68]⟩, 3, 0, [aRow], -3, 0) := by kernel_rfl
set_option maxRecDepth 100000 in
theorem a_check : slip_Check.f 20 ⟨#[97, 110, 110]⟩ ⟨#[85, 83, 68]⟩ 3 5 [aRow] 3 = some 190 := by kernel_rfl
end Go.Proofs.YtnngbnhbmgdkoaaDoor.E
