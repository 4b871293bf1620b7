/- order.Market and the document's: the asset and the cash of a market's name. -/
import Derived.Test.YtdpdbmdnmgaeiaaDoorSpec20
import Derived.Test.YtdpdbmdnmgaeiaaDoorRefNames
import Derived.Test.YtdpdbmdnmgaeiaaDoorPx1
import Derived.Test.YtdpdbmdnmgaeiaaDoorPx2
namespace Go.Proofs.YtdpdbmdnmgaeiaaDoor.E
open Go.RowKit Go.Proofs.YtdpdbmdnmgaeiaaDoor.P Go.Proofs.YtdpdbmdnmgaeiaaDoorW.PrintWords Go.Proofs.YtdpdbmdnmgaeiaaDoorW.PrintLast
theorem cut_size (s : ByteArray) : (⟨(Lib.cut s.data.toList [45]).1.toArray⟩ : ByteArray).size ≤ s.size ∧ (⟨(Lib.cut s.data.toList [45]).2.1.toArray⟩ : ByteArray).size ≤ s.size := by
  have e : ∀ l : List UInt8, (⟨l.toArray⟩ : ByteArray).size = l.length := fun l => by show l.toArray.size = _; simp
  have hl := size_len s
  rw [e (Lib.cut s.data.toList [45]).1, e (Lib.cut s.data.toList [45]).2.1, ← hl]
  clear hl
  generalize s.data.toList = l
  unfold Lib.cut
  split
  · simp only [List.length_take, List.length_drop]
    omega
  · simp
theorem market_some (s : ByteArray) (hs : s.size ≤ 1000000) : order_Market.f s = some (marketOf s) := by
  have hc := cut_size s
  unfold order_Market.f strings_Cut.f
  rw [if_pos (by omega)]
  simp only [Option.bind_some]
  rw [asset_some _ (by omega), asset_some _ (by omega)]
  simp only [Option.bind_some]
  unfold marketOf
  rw [toList_data, toList_data]
  generalize Lib.cut s.data.toList [45] = c
  obtain ⟨a, b, f⟩ := c
  simp only
  cases f with
  | false => simp
  | true =>
    cases isPart isUp 6 ⟨a.toArray⟩ with
    | false => simp
    | true =>
      cases isPart isUp 6 ⟨b.toArray⟩ with
      | false => simp
      | true =>
        by_cases h : a = b
        · subst h
          simp
        · simp [h]
end Go.Proofs.YtdpdbmdnmgaeiaaDoor.E
