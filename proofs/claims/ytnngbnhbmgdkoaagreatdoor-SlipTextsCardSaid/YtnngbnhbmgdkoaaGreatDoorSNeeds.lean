/- What gives up: slip.needs, slip.number, slip.amount; the lines that are taken: (*slip.source).words, (*slip.source).next. -/
import Derived.Test.YtnngbnhbmgdkoaaGreatDoorSText
import Derived.Test.YtnngbnhbmgdkoaaGreatDoorParse
import Derived.WalkLawsBesides
namespace Go.Proofs.YtnngbnhbmgdkoaaGreatDoor.E
open Go.RowKit Go.Proofs.YtnngbnhbmgdkoaaGreatDoor.P Go.Proofs.YtnngbnhbmgdkoaaGreatDoorW.PrintWords Go.Proofs.YtnngbnhbmgdkoaaGreatDoorW.PrintLast
/-- How a call ends that gives up. -/
def gaveUp : Ending := .panicked [{ v := .iface 28 (.int .i64 190), recovered := false }]
theorem needs_yes (w : World) : Calls Tryz.prog 26 #[.bool true] w fun e w' => e = .returned (.tuple #[]) ∧ w' = w := by
  go_enter Tryz.func26, Tryz.ntmps26
  go_wp2
  go_end0
  exact ⟨rfl, rfl⟩
theorem needs_no (w : World) : Calls Tryz.prog 26 #[.bool false] w fun e w' => e = .panicked [{ v := .iface 28 (.int .i64 190), recovered := false }] ∧ w' = w := by
  go_enter Tryz.func26, Tryz.ntmps26
  go_wp2
  exact ⟨rfl, rfl, rfl⟩
/-- The number that a word is. -/
def uintP (s : ByteArray) : Option Nat := match Lib.parseUintB 64 s.data.toList with
  | .ok u => if decText u = s.data.toList then some u else none
  | _ => none
theorem parseUint_all (s : ByteArray) (hs : s.size ≤ 140737488351232) (w : World) (hG : Glob w) :
    (∃ u, Lib.parseUintB 64 s.data.toList = .ok u ∧ Calls Tryz.prog 68 #[.string s, .int .i64 10, .int .i64 64] w fun e w' => e = .returned (.tuple #[.int .u64 (u : Int), .nilIface]) ∧ Below w.heap.size w w') ∨
    (∃ n, (∀ u, Lib.parseUintB 64 s.data.toList ≠ .ok u) ∧ Calls Tryz.prog 68 #[.string s, .int .i64 10, .int .i64 64] w fun e w' => (∃ p, e = .returned (.tuple #[.int .u64 n, .iface 125 p])) ∧ Below w.heap.size w w') := by
  cases hp : Lib.parseUintB 64 s.data.toList
  · rename_i u
    refine .inl ⟨u, rfl, (Tryz.strconv_ParseUint_10_at64_ok s (by omega) u hp w).mono ?_⟩
    rintro e w' ⟨rfl, hw⟩
    refine ⟨rfl, ?_⟩
    rcases hw with rfl | rfl
    · exact Below.refl _ _
    · exact below_bytes' _ _ _
  · obtain ⟨te, pe, hv⟩ := hG.syn
    refine .inr ⟨0, (fun v h => nomatch h), (Any.strconv_ParseUint_10_at64_syntax Tryz.laysPu14 s (by omega) hp _ w hv (.inr ⟨te, pe, rfl⟩)).mono ?_⟩
    rintro e w' ⟨N, rfl, _, _, hb⟩
    exact ⟨⟨_, rfl⟩, hb⟩
  · obtain ⟨te, pe, hv⟩ := hG.rng
    refine .inr ⟨18446744073709551615, (fun v h => nomatch h), (Tryz.strconv_ParseUint_10_at64_range s (by omega) hp _ w hv (.inr ⟨te, pe, rfl⟩)).mono ?_⟩
    rintro e w' ⟨N, rfl, _, _, hb⟩
    exact ⟨⟨_, rfl⟩, hb⟩
theorem parseUintM_le (M : Nat) : ∀ (l : List UInt8) (acc u : Nat), acc ≤ M → Lib.parseUintM M acc l = .ok u → u ≤ M
  | [], acc, u, h, e => by
    simp only [Lib.parseUintM, Lib.NumEnd.ok.injEq] at e
    omega
  | c :: r, acc, u, h, e => by
    simp only [Lib.parseUintM] at e
    repeat' split at e
    all_goals first | (cases e; done) | (exact parseUintM_le M r _ u (by omega) e)
theorem parseUint_lt {l : List UInt8} {u : Nat} (h : Lib.parseUintB 64 l = .ok u) : u < 18446744073709551616 := by
  unfold Lib.parseUintB at h
  split at h
  · cases h
  · have := parseUintM_le _ l 0 u (Nat.zero_le _) h
    have e : 2 ^ 64 - 1 = 18446744073709551615 := by decide
    omega
theorem uintP_lt {s : ByteArray} {u : Nat} (h : uintP s = some u) : u < 18446744073709551616 := by
  unfold uintP at h
  split at h
  · rename_i v hv
    split at h
    · obtain rfl := Option.some.inj h
      exact parseUint_lt hv
    · cases h
  · cases h
/-- How slip.number ends. -/
def numEnd : Option Nat → Ending
  | some u => .returned (.int .u64 (u : Int))
  | none => gaveUp
set_option maxHeartbeats 1000000 in
theorem number_calls (s : ByteArray) (hs : s.size ≤ 140737488351232) (w : World) (hG : Glob w) :
    Calls Tryz.prog 48 #[.string s] w fun e w' => e = numEnd (uintP s) ∧ Below w.heap.size w w' := by
  have HG := Lib.hid hG
  rcases parseUint_all s hs w hG with ⟨u, hu, hc⟩ | ⟨n, hu, hc⟩
  · have hp : uintP s = if decText u = s.data.toList then some u else none := by unfold uintP; rw [hu]
    have hlt := parseUint_lt hu
    have HC := Lib.hid hc
    have HT : Hid (∀ W, Glob W → Calls Tryz.prog 15 #[.int .u64 (u : Int), .int .i64 10] W fun e w' => e = .returned (.string (decOf (u : Int))) ∧ Below W.heap.size W w') := Lib.hid fun W hW => strconv_FormatUint.calls (u : Int) (decOf (u : Int)) W hW (if_pos ⟨by omega, by omega⟩)
    obtain ⟨t, ht⟩ : ∃ t, decOf (u : Int) = t := ⟨_, rfl⟩
    have htt : decText u = t.data.toList := by rw [← ht]; unfold decOf; simp
    rw [ht] at HT
    rw [hp, htt]
    clear hc hG hu hp ht htt
    by_cases he : t.data.toList = s.data.toList
    · rw [if_pos he]
      have hq : (t.toList == s.toList) = true := by rw [toList_data, toList_data]; exact beq_iff_eq.2 he
      clear he
      go_enter Tryz.func48, Tryz.ntmps48
      go_wp2_with (first | (go_at_call 68; refine (HC.out).mono ?_; rintro e w1 ⟨rfl, hb⟩; have HB1 := Lib.hid hb; clear hb) | (go_at_call 15; refine (HT.out _ (HG.out.below HB1.out)).mono ?_; rintro e w2 ⟨rfl, hb⟩; have HB2 := Lib.hid hb; clear hb) | (go_at_call 26; refine (needs_yes _).mono ?_; rintro e w3 ⟨rfl, rfl⟩))
      go_ret
      exact ⟨rfl, below_step HB1.out HB2.out⟩
    · rw [if_neg he]
      have hq : (t.toList == s.toList) = false := by rw [toList_data, toList_data]; exact beq_eq_false_iff_ne.2 he
      clear he
      go_enter Tryz.func48, Tryz.ntmps48
      go_wp2_with (first | (go_at_call 68; refine (HC.out).mono ?_; rintro e w1 ⟨rfl, hb⟩; have HB1 := Lib.hid hb; clear hb) | (go_at_call 15; refine (HT.out _ (HG.out.below HB1.out)).mono ?_; rintro e w2 ⟨rfl, hb⟩; have HB2 := Lib.hid hb; clear hb) | (go_at_call 26; refine (needs_no _).mono ?_; rintro e w3 ⟨rfl, rfl⟩))
      exact ⟨rfl, rfl, below_step HB1.out HB2.out⟩
  · have hp : uintP s = none := by
      unfold uintP
      split
      · rename_i u h; exact absurd h (hu u)
      · rfl
    rw [hp]
    have HC := Lib.hid hc
    clear hc hG hu hp
    go_enter Tryz.func48, Tryz.ntmps48
    go_wp2_with (first | (go_at_call 68; refine (HC.out).mono ?_; rintro e w1 ⟨⟨p, rfl⟩, hb⟩; have HB1 := Lib.hid hb; clear hb) | (go_at_call 26; refine (needs_no _).mono ?_; rintro e w3 ⟨rfl, rfl⟩))
    exact ⟨rfl, rfl, HB1.out⟩
/-- The amount that a word is. -/
def amtP (s : ByteArray) : Option Int := if (parseOf s.data.toList).2 = 0 then some (parseOf s.data.toList).1 else none
def amtEnd : Option Int → Ending
  | some a => .returned (.int .i64 a)
  | none => gaveUp
theorem amount_calls (s : ByteArray) (hs : s.size ≤ 140737488351232) (w : World) (hG : Glob w) :
    Calls Tryz.prog 49 #[.string s] w fun e w' => e = amtEnd (amtP s) ∧ Below w.heap.size w w' := by
  have HC := Lib.hid (coin_Parse.calls s (parseOf s.data.toList).1 (parseOf s.data.toList).2 w hG (if_pos hs))
  obtain ⟨a, ha⟩ : ∃ a, (parseOf s.data.toList).1 = a := ⟨_, rfl⟩
  obtain ⟨c, hc⟩ : ∃ c, (parseOf s.data.toList).2 = c := ⟨_, rfl⟩
  unfold amtP
  rw [ha, hc] at HC ⊢
  clear ha hG
  by_cases h0 : c = 0
  · subst h0
    rw [if_pos rfl]
    clear hc
    go_enter Tryz.func49, Tryz.ntmps49
    go_wp2_with (first | (go_at_call 69; refine (HC.out).mono ?_; rintro e w1 ⟨rfl, hb⟩; have HB1 := Lib.hid hb; clear hb) | (go_at_call 26; refine (needs_yes _).mono ?_; rintro e w3 ⟨rfl, rfl⟩))
    go_ret
    exact ⟨rfl, HB1.out⟩
  · rw [if_neg h0]
    have h1 : (c == 0) = false := beq_eq_false_iff_ne.2 h0
    clear hc h0
    go_enter Tryz.func49, Tryz.ntmps49
    go_wp2_with (first | (go_at_call 69; refine (HC.out).mono ?_; rintro e w1 ⟨rfl, hb⟩; have HB1 := Lib.hid hb; clear hb) | (go_at_call 26; refine (needs_no _).mono ?_; rintro e w3 ⟨rfl, rfl⟩))
    exact ⟨rfl, rfl, HB1.out⟩
end Go.Proofs.YtnngbnhbmgdkoaaGreatDoor.E
