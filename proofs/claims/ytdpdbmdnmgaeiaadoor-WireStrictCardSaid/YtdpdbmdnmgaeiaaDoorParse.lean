/- The walk of coin.Parse. -/
import Derived.Test.YtdpdbmdnmgaeiaaDoorText
import Derived.Test.YtdpdbmdnmgaeiaaDoorEv
import Derived.WideLaws
namespace Go.Proofs.YtdpdbmdnmgaeiaaDoor.E
open Go.RowKit Go.Proofs.YtdpdbmdnmgaeiaaDoorW.PrintWords Go.Proofs.YtdpdbmdnmgaeiaaDoorW.PrintLast
theorem parse_ret {a b a' b' : Int} (h : (a, b) = (a', b')) : Ending.returned (.tuple #[.int .i64 a, .int .i64 b]) = .returned (.tuple #[.int .i64 a', .int .i64 b']) := by
  obtain ⟨rfl, rfl⟩ := Prod.mk.inj h
  rfl
theorem below_bytes' (w : World) (e : TypeId) (s : ByteArray) : Below w.heap.size w (Lib.bytesWorld w e s) :=
  ⟨rfl, rfl, rfl, by rw [Lib.bytesWorld_size]; omega, fun k hk => Lib.bytesWorld_at_old w e s k hk⟩
/-- strconv.ParseInt, all ends under one: a number and no error, or some number and an error. -/
theorem parseInt_all (s : ByteArray) (hs : s.size ≤ 140737488351232) (w : World) (hG : Glob w) :
    (∃ v, Lib.parseIntB 64 s.data.toList = .ok v ∧ Calls Tryd.prog 44 #[.string s, .int .i64 10, .int .i64 64] w fun e w' => e = .returned (.tuple #[.int .i64 v, .nilIface]) ∧ Below w.heap.size w w') ∨
    (∃ n, (∀ v, Lib.parseIntB 64 s.data.toList ≠ .ok v) ∧ Calls Tryd.prog 44 #[.string s, .int .i64 10, .int .i64 64] w fun e w' => (∃ p, e = .returned (.tuple #[.int .i64 n, .iface 106 p])) ∧ Below w.heap.size w w') := by
  cases hp : Lib.parseIntB 64 s.data.toList
  · rename_i v
    refine .inl ⟨v, rfl, (Tryd.strconv_ParseInt_10_at64_ok s (by omega) v hp w).mono ?_⟩
    rintro e w' ⟨rfl, hw⟩
    refine ⟨rfl, ?_⟩
    rcases hw with rfl | ⟨t, rfl⟩
    · exact Below.refl _ _
    · exact below_bytes' _ _ _
  · obtain ⟨te, pe, hv⟩ := hG.syn
    refine .inr ⟨0, (fun v h => nomatch h), (Any.strconv_ParseInt_10_at64_syntax Tryd.laysC174 s (by omega) hp _ w hv (.inr ⟨te, pe, rfl⟩)).mono ?_⟩
    rintro e w' ⟨N, rfl, _, _, hb⟩
    exact ⟨⟨_, rfl⟩, hb⟩
  · obtain ⟨te, pe, hv⟩ := hG.rng
    refine .inr ⟨Lib.intSat 64 s.data.toList, (fun v h => nomatch h), (Tryd.strconv_ParseInt_10_at64_range s (by omega) hp _ w hv (.inr ⟨te, pe, rfl⟩)).mono ?_⟩
    rintro e w' ⟨N, rfl, _, _, hb⟩
    exact ⟨⟨_, rfl⟩, hb⟩
set_option maxHeartbeats 2000000 in
theorem coin_Parse.calls (a0 : ByteArray) (r1 : Int) (r2 : Int) (w : World) (hG : Glob w) (h : coin_Parse.f a0 = some (r1, r2)) :
    Calls Tryd.prog 31 #[.string a0] w fun e w' => e = .returned (.tuple #[.int .i64 r1, .int .i64 r2]) ∧ Below w.heap.size w w' := by
  unfold coin_Parse.f at h
  split at h
  case isFalse => cases h
  rename_i hs
  have hr := Option.some.inj h
  clear h
  rcases parseInt_all a0 hs w hG with ⟨v, hv, hc⟩ | ⟨n, hv, hc⟩
  · have hp : parseOf a0.data.toList = if intText v = a0.data.toList then (v, 0) else (0, 11) := by unfold parseOf; rw [hv]
    have h64 := parse_range hv
    have ht : ∀ W, Glob W → Calls Tryd.prog 20 #[.int .i64 v] W fun e w' => e = .returned (.string ⟨(intText v).toArray⟩) ∧ Below W.heap.size W w' := fun W hW => coin_Text.calls v _ W hW (by unfold coin_Text.f; exact if_pos h64)
    rw [hp] at hr
    obtain ⟨t, htx⟩ : ∃ t : ByteArray, t = ⟨(intText v).toArray⟩ := ⟨_, rfl⟩
    rw [← htx] at ht
    have htt : intText v = t.data.toList := by rw [htx]
    rw [htt] at hr
    have HT := Lib.hid ht; clear ht
    have HG := Lib.hid hG; clear hG
    have HC := Lib.hid hc; clear hc
    clear htx htt hp hv h64
    by_cases he : t.data.toList = a0.data.toList
    · rw [if_pos he] at hr
      obtain rfl : t = a0 := by
        cases t with | mk x => cases a0 with | mk y => simpa using he
      have HR := Lib.hid hr; clear hr
      clear he
      go_enter Tryd.func31, Tryd.ntmps31
      go_wp2_with (first | (go_at_call 44; refine (HC.out).mono ?_; rintro e w1 ⟨rfl, hb1⟩; have HB1 := Lib.hid hb1; clear hb1) | (go_at_call 20; refine (HT.out _ (HG.out.below HB1.out)).mono ?_; rintro e w2 ⟨rfl, hb2⟩; have HB2 := Lib.hid hb2; clear hb2))
      go_ret2
      exact ⟨parse_ret HR.out, below_then HB1.out HB1.out.size HB2.out⟩
    · rw [if_neg he] at hr
      have hne : (!(t.toList == a0.toList)) = true := bne_iff_ne.2 (fun e => he (by rw [← toList_data, ← toList_data]; exact e))
      have HR := Lib.hid hr; clear hr
      have HE := Lib.hid he; clear he
      go_enter Tryd.func31, Tryd.ntmps31
      go_wp2_with (first | (go_at_call 44; refine (HC.out).mono ?_; rintro e w1 ⟨rfl, hb1⟩; have HB1 := Lib.hid hb1; clear hb1) | (go_at_call 20; refine (HT.out _ (HG.out.below HB1.out)).mono ?_; rintro e w2 ⟨rfl, hb2⟩; have HB2 := Lib.hid hb2; clear hb2))
      go_ret2
      exact ⟨parse_ret HR.out, below_then HB1.out HB1.out.size HB2.out⟩
  · have hp : parseOf a0.data.toList = (0, 11) := by
      unfold parseOf
      split
      · rename_i v h; exact absurd h (hv v)
      · rfl
    rw [hp] at hr
    have HR := Lib.hid hr; clear hr
    have HC := Lib.hid hc; clear hc
    clear hG hp hv
    go_enter Tryd.func31, Tryd.ntmps31
    go_wp2_with (go_at_call 44; refine (HC.out).mono ?_; rintro e w1 ⟨⟨p, rfl⟩, hb1⟩; have HB1 := Lib.hid hb1; clear hb1)
    go_ret2
    exact ⟨parse_ret HR.out, HB1.out⟩
end Go.Proofs.YtdpdbmdnmgaeiaaDoor.E
