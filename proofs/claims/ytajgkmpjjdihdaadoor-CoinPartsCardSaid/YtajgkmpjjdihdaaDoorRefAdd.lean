/- coin.Add, Sub, and the document's: the sum, the difference, or the error. -/
import Derived.Test.YtajgkmpjjdihdaaDoorArith
import Derived.Test.YtajgkmpjjdihdaaDoorPx1
import Derived.Test.YtajgkmpjjdihdaaDoorPx1
import Derived.Test.YtajgkmpjjdihdaaDoorPx1
import Derived.Test.YtajgkmpjjdihdaaDoorPx1
namespace Go.Proofs.YtajgkmpjjdihdaaDoor.E
open Go.RowKit Go.Proofs.YtajgkmpjjdihdaaDoor.P Go.Proofs.YtajgkmpjjdihdaaDoorW.PrintWords Go.Proofs.YtajgkmpjjdihdaaDoorW.PrintLast
theorem add_some {a b : Int} (ha : in64 a) (hb : in64 b) : coin_Add.f a b = some (outOf (a + b)) := by
  unfold coin_Add.f
  by_cases h : in64 (a + b)
  · rw [if_neg (by rw [add_over ha hb]; exact fun n => n h), outOf_in h, wrap64_in h]
  · rw [if_pos ((add_over ha hb).2 h), outOf_over h]
theorem sub_some {a b : Int} (ha : in64 a) (hb : in64 b) : coin_Sub.f a b = some (outOf (a - b)) := by
  unfold coin_Sub.f
  by_cases h : in64 (a - b)
  · rw [if_neg (by rw [sub_over ha hb]; exact fun n => n h), outOf_in h, wrap64_in h]
  · rw [if_pos ((sub_over ha hb).2 h), outOf_over h]
theorem ref_add {a b : Int} (ha : in64 a) (hb : in64 b) : cambistref01_Add.f a b = some (outOf (a + b)) := by
  have h1 := ha.1
  have h2 := ha.2
  have h3 := hb.1
  have h4 := hb.2
  unfold cambistref01_Add.f
  by_cases hp : b > 0
  · rw [if_pos hp, wrap_in (x := 9223372036854775807 - b) (by omega) (by omega)]
    by_cases h : in64 (a + b)
    · rw [if_neg (by unfold in64 at h; omega), if_neg (by omega), outOf_in h, wrap64_in h]
    · rw [if_pos (by unfold in64 at h; omega), outOf_over h]
  · rw [if_neg hp]
    by_cases hn : b < 0
    · rw [if_pos hn, wrap_in (x := -9223372036854775808 - b) (by omega) (by omega)]
      by_cases h : in64 (a + b)
      · rw [if_neg (by unfold in64 at h; omega), outOf_in h, wrap64_in h]
      · rw [if_pos (by unfold in64 at h; omega), outOf_over h]
    · have h : in64 (a + b) := by unfold in64; omega
      rw [if_neg hn, outOf_in h, wrap64_in h]
theorem ref_sub {a b : Int} (ha : in64 a) (hb : in64 b) : cambistref01_Sub.f a b = some (outOf (a - b)) := by
  have h1 := ha.1
  have h2 := ha.2
  have h3 := hb.1
  have h4 := hb.2
  unfold cambistref01_Sub.f
  by_cases hn : b < 0
  · rw [if_pos hn, wrap_in (x := 9223372036854775807 + b) (by omega) (by omega)]
    by_cases h : in64 (a - b)
    · rw [if_neg (by unfold in64 at h; omega), if_neg (by omega), outOf_in h, wrap64_in h]
    · rw [if_pos (by unfold in64 at h; omega), outOf_over h]
  · rw [if_neg hn]
    by_cases hp : b > 0
    · rw [if_pos hp, wrap_in (x := -9223372036854775808 + b) (by omega) (by omega)]
      by_cases h : in64 (a - b)
      · rw [if_neg (by unfold in64 at h; omega), outOf_in h, wrap64_in h]
      · rw [if_pos (by unfold in64 at h; omega), outOf_over h]
    · have h : in64 (a - b) := by unfold in64; omega
      rw [if_neg hp, outOf_in h, wrap64_in h]
end Go.Proofs.YtajgkmpjjdihdaaDoor.E
