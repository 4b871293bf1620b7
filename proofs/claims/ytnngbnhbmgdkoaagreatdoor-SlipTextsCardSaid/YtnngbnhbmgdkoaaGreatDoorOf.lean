/- The walks of label.of and of the function in it. -/
import Derived.Test.YtnngbnhbmgdkoaaGreatDoorGlob
import Derived.Test.YtnngbnhbmgdkoaaGreatDoorOfPure
import Derived.Test.YtnngbnhbmgdkoaaGreatDoorShelf
import Derived.Test.YtnngbnhbmgdkoaaGreatDoorProg
import Derived.Test.YtnngbnhbmgdkoaaGreatDoorWLast
import Derived.WalkKit
import Derived.Lib.ConvBytes
import Derived.Lib.Hide
namespace Go.Proofs.YtnngbnhbmgdkoaaGreatDoor.E
open Go.RowKit Go.Proofs.YtnngbnhbmgdkoaaGreatDoorW.PrintWords Go.Proofs.YtnngbnhbmgdkoaaGreatDoorW.PrintLast

theorem str_cells {w : World} {A : Option Addr} {l : List ByteArray} (h : Kd.C Kd.string w A l.length l) :
    l.length = 0 ∨ ∃ ad, A = some ad ∧ ∀ k, k < l.length → w.cell? (ad.add k) = some (.string (l.getD k ByteArray.empty)) := by
  rcases Nat.eq_zero_or_pos l.length with h0 | h0
  · exact .inl h0
  · obtain ⟨ad, _, e, _⟩ := Kd.C_get h ByteArray.empty 0 (by omega) (by omega)
    refine .inr ⟨ad, e, fun k hk => ?_⟩
    obtain ⟨ad', c, e', _, hK, hc⟩ := Kd.C_get h ByteArray.empty (k : Int) (by omega) (by omega)
    obtain rfl : ad = ad' := Option.some.inj (e.symm.trans e')
    have hK' : c = [.string (l.getD k ByteArray.empty)] := hK
    subst hK'
    have := hc 0 _ rfl
    simpa [show (Kd.string).sz = 1 from rfl] using this

theorem str_len {w : World} {A : Option Addr} {l : List ByteArray} (h : Kd.C Kd.string w A l.length l) : l.length ≤ 9223372036854775807 := h.2.1

theorem inAny_take (l : List ByteArray) (c : UInt8) (k : Nat) (hk : k < l.length) (h : inAny (l.take k) c = false) (hb : decide (0 ≤ Go.Lib.indexByte (l.getD k ByteArray.empty).data.toList c) = false) : inAny (l.take (k + 1)) c = false := by
  unfold inAny at *
  rw [List.take_succ_eq_append_getElem hk, List.any_append, h]
  simp only [List.any_cons, List.any_nil, Bool.or_false, Bool.false_or]
  rw [List.getD_eq_getElem?_getD, List.getElem?_eq_getElem hk] at hb
  exact hb
theorem inAny_found (l : List ByteArray) (c : UInt8) (k : Nat) (hk : k < l.length) (hb : decide (0 ≤ Go.Lib.indexByte (l.getD k ByteArray.empty).data.toList c) = true) : inAny l c = true := by
  unfold inAny
  rw [List.any_eq_true]
  refine ⟨l.getD k ByteArray.empty, ?_, hb⟩
  rw [List.getD_eq_getElem?_getD, List.getElem?_eq_getElem hk]
  exact List.getElem_mem hk

theorem ret_bool {a b : Bool} (h : a = b) : Ending.returned (.bool a) = .returned (.bool b) := by rw [h]
theorem u8_back (c : UInt8) : ((c.toNat : Int)).toNat.toUInt8 = c := by simp

set_option maxHeartbeats 1000000 in
/-- 'in': is a byte among the signs that were captured? -/
theorem in_calls (c : UInt8) (g : Nat) (A : Option Addr) (n : Nat) (l : List ByteArray) (w : World) (hc : w.cell? ⟨g, 0, none⟩ = some (.slice A l.length n)) (hl : l.length ≤ 9223372036854775807)
    (hr : l.length = 0 ∨ ∃ ad, A = some ad ∧ ∀ k, k < l.length → w.cell? (ad.add k) = some (.string (l.getD k ByteArray.empty))) :
    Calls Tryz.prog 71 #[.int .u8 (c.toNat : Int), .pointer (some ⟨g, 0, none⟩)] w fun e w' => e = .returned (.bool (inAny l c)) ∧ w' = w := by
  rcases hr with h0 | ⟨ad, rfl, hcell⟩
  · have hn : l = [] := List.eq_nil_of_length_eq_zero h0
    subst hn
    go_enter Tryz.func71, Tryz.ntmps71
    go_wp2
    go_loop [8] (fun i => i = .int .i64 0) (fun _ => 0)
    case atStart => rfl
    case round =>
      obtain rfl := hrel
      go_wp2
      go_ret
      exact ⟨rfl, rfl⟩
  · go_enter Tryz.func71, Tryz.ntmps71
    go_wp2
    go_loop [8] (fun i => ∃ k : Nat, k ≤ l.length ∧ i = .int .i64 k ∧ inAny (l.take k) c = false) (fun i => l.length - (intOf i).toNat)
    case atStart => exact ⟨0, Nat.zero_le _, rfl, by simp [inAny]⟩
    case round =>
      obtain ⟨k, hk, rfl, hno⟩ := hrel
      have HN := Lib.hid hno; clear hno
      by_cases hlt : k < l.length
      · obtain ⟨x, hx⟩ : ∃ x, l.getD k ByteArray.empty = x := ⟨_, rfl⟩
        have hck : w.cell? (ad.add k) = some (.string x) := hx ▸ hcell k hlt
        have HC := Lib.hid hcell; clear hcell
        obtain ⟨v, hv⟩ : ∃ v, Go.Lib.indexByte x.data.toList c = v := ⟨_, rfl⟩
        by_cases hin : 0 ≤ v
        · have HF := Lib.hid (inAny_found l c k hlt (by rw [hx, hv]; exact decide_eq_true hin))
          have hin' : decide (v ≥ 0) = true := decide_eq_true hin
          have HV := Lib.hid hv; clear hv
          have HX := Lib.hid hx; clear hx
          go_wp2_with (go_at_call 72; refine (Tryz.strings_IndexByte _ _ _).mono ?_; rintro e w' ⟨rfl, rfl⟩; rw [u8_back, HV.out])
          go_ret
          exact ⟨ret_bool HF.out.symm, rfl⟩
        · have HF := Lib.hid (inAny_take l c k hlt HN.out (by rw [hx, hv]; exact decide_eq_false hin))
          have hin' : decide (v ≥ 0) = false := decide_eq_false hin
          have HV := Lib.hid hv; clear hv
          have HX := Lib.hid hx; clear hx
          go_wp2_with (go_at_call 72; refine (Tryz.strings_IndexByte _ _ _).mono ?_; rintro e w' ⟨rfl, rfl⟩; rw [u8_back, HV.out])
          go_round
          case rel => exact ⟨k + 1, by omega, by go_num, HF.out⟩
          case measure => simp [intOf]; omega
      · obtain rfl : k = l.length := by omega
        go_wp2
        go_ret
        exact ⟨ret_bool (by rw [← HN.out, List.take_length]), rfl⟩
theorem below_bytes (w : World) (e : TypeId) (s : ByteArray) : Below w.heap.size w (Lib.bytesWorld w e s) :=
  ⟨rfl, rfl, rfl, by rw [Lib.bytesWorld_size]; omega, fun k hk => Lib.bytesWorld_at_old w e s k hk⟩

theorem take_all (l : List UInt8) (p : UInt8 → Bool) (k : Nat) (hk : k < l.length) (h : (l.take k).all p = true) (hb : p (l.getD k 0) = true) : (l.take (k + 1)).all p = true := by
  rw [List.take_succ_eq_append_getElem hk, List.all_append, h]
  rw [List.getD_eq_getElem?_getD, List.getElem?_eq_getElem hk] at hb
  simpa using hb
theorem not_all (l : List UInt8) (p : UInt8 → Bool) (k : Nat) (hk : k < l.length) (hb : p (l.getD k 0) = false) : l.all p = false := by
  rw [List.all_eq_false]
  rw [List.getD_eq_getElem?_getD, List.getElem?_eq_getElem hk] at hb
  exact ⟨l[k], List.getElem_mem hk, by simpa using hb⟩

set_option maxHeartbeats 2000000 in
theorem label_of.calls (a0 : ByteArray) (a1 : Int) (A2 : Option Addr) (c2 : Nat) (l2 : List ByteArray) (r : Bool) (w : World) (_hG : Glob w) (hr2 : Kd.C Kd.string w A2 l2.length l2) (_hc2 : l2.length ≤ c2) (h : label_of.f a0 a1 l2 = some r) :
    Calls Tryz.prog 53 #[.string a0, .int .i64 a1, .slice A2 l2.length c2] w fun e w' => e = .returned (.bool r) ∧ Below w.heap.size w w' := by
  have hl := str_len hr2
  have hcells := str_cells hr2
  clear hr2
  unfold label_of.f at h
  split at h
  case isFalse => cases h
  rename_i hsz
  have hr := Option.some.inj h
  clear h
  obtain ⟨W, hW⟩ : ∃ W, W = Lib.bytesWorld (w.alloc (.cells #[.slice A2 l2.length c2] 51)) 5 a0 := ⟨_, rfl⟩
  have hcv := Lib.run_convert_string_bytes (P := Tryz.prog) (w.alloc (.cells #[.slice A2 l2.length c2] 51)) 9 48 5 a0 Tryz.underlying9 Tryz.underlying48 Tryz.underlying5
  rw [← hW] at hcv
  generalize grownCap (w.alloc (.cells #[.slice A2 l2.length c2] 51)) a0.size 0 5 = cap at hcv
  have hcv' : (convert 9 48 (.string a0)).run Tryz.prog (w.alloc (.cells #[.slice A2 l2.length c2] 51)) = .ok (.slice (some ⟨w.heap.size + 1, 0, none⟩) a0.size cap) W := by simpa using hcv
  clear hcv
  have hold : ∀ a : Addr, a.block < w.heap.size → W.cell? a = w.cell? a := fun a ha => by
    rw [hW, Lib.bytesWorld_old _ _ _ _ (by simp; omega)]
    exact (below_alloc (Below.refl _ _) _).cell ha
  have hbel : Below w.heap.size w W := by
    rw [hW]
    exact below_then (below_alloc (Below.refl _ _) _) (by simp) (below_bytes _ _ _)
  have hbytes : ∀ k, k < a0.size → W.cell? ⟨w.heap.size + 1, k, none⟩ = some (.int .u8 ((a0.data.toList.getD k 0).toNat : Int)) := fun k hk => by
    rw [hW]
    have := Lib.bytesWorld_cell (w.alloc (.cells #[.slice A2 l2.length c2] 51)) 5 a0 k hk
    simpa using this
  have hcap : W.cell? ⟨w.heap.size, 0, none⟩ = some (.slice A2 l2.length c2) := by
    rw [hW, Lib.bytesWorld_old _ _ _ _ (by simp)]
    exact (blk_cell (heap_alloc_new w _) 0).trans rfl
  have hsigns : l2.length = 0 ∨ ∃ ad, A2 = some ad ∧ ∀ k, k < l2.length → W.cell? (ad.add k) = some (.string (l2.getD k ByteArray.empty)) := by
    rcases hcells with h0 | ⟨ad, e, hc⟩
    · exact .inl h0
    · exact .inr ⟨ad, e, fun k hk => (hold _ (World.block_lt_of_cell? w _ (hc k hk))).trans (hc k hk)⟩
  clear hcells hold hW
  have HIN := fun c => Lib.hid (in_calls c w.heap.size A2 c2 l2 W hcap hl hsigns)
  clear hcap hsigns
  have HB := Lib.hid hbytes; clear hbytes
  have HR := Lib.hid hr; clear hr
  have HL := Lib.hid hbel; clear hbel
  go_enter Tryz.func53, Tryz.ntmps53
  go_wp2
  have hlen : a0.data.toList.length = a0.size := by simp
  go_loop [14] (fun i => ∃ k : Nat, k ≤ a0.size ∧ i = .int .i64 k ∧ (a0.data.toList.take k).all (inAny l2) = true) (fun i => a0.size - (intOf i).toNat)
  case atStart => exact ⟨0, Nat.zero_le _, rfl, rfl⟩
  case round =>
    obtain ⟨k, hk, rfl, hall⟩ := hrel
    have HN := Lib.hid hall; clear hall
    by_cases hlt : k < a0.size
    · obtain ⟨x, hx⟩ : ∃ x, a0.data.toList.getD k 0 = x := ⟨_, rfl⟩
      have hck : W.cell? ⟨w.heap.size + 1, k, none⟩ = some (.int .u8 (x.toNat : Int)) := hx ▸ HB.out k hlt
      cases hin : inAny l2 x with
      | true =>
        have HF := Lib.hid (take_all a0.data.toList (inAny l2) k (by omega) HN.out (by rw [hx]; exact hin))
        have HX := Lib.hid hx; clear hx
        have HI := Lib.hid hin; clear hin
        have HLE := Lib.hid hlen; clear hlen
        go_wp2_with (go_at_call 71; refine ((HIN x).out).mono ?_; rintro e w' ⟨rfl, rfl⟩; rw [HI.out])
        go_round
        case rel => exact ⟨k + 1, by omega, by go_num, HF.out⟩
        case measure => simp [intOf]; omega
      | false =>
        have HF := Lib.hid (not_all a0.data.toList (inAny l2) k (by omega) (by rw [hx]; exact hin))
        have HX := Lib.hid hx; clear hx
        have HI := Lib.hid hin; clear hin
        have HLE := Lib.hid hlen; clear hlen
        go_wp2_with (go_at_call 71; refine ((HIN x).out).mono ?_; rintro e w' ⟨rfl, rfl⟩; rw [HI.out])
        go_ret
        exact ⟨ret_bool (by rw [← HR.out]; unfold ofB; rw [HF.out]; rfl), HL.out⟩
    · obtain rfl : k = a0.size := by omega
      have HA : Hid (a0.data.toList.all (inAny l2) = true) := by
        have := HN.out
        rw [← hlen, List.take_length] at this
        exact Lib.hid this
      clear HN hlen
      by_cases h1 : 1 ≤ a0.size
      · have h1' : decide (1 ≤ a0.size) = true := decide_eq_true h1
        have h1'' : decide (1 ≤ (a0.size : Int)) = true := decide_eq_true (by omega)
        go_wp2
        go_ret
        exact ⟨ret_bool (by rw [← HR.out]; unfold ofB; rw [HA.out, h1']; rfl), HL.out⟩
      · have h1' : decide (1 ≤ a0.size) = false := decide_eq_false h1
        have h1'' : decide (1 ≤ (a0.size : Int)) = false := decide_eq_false (by omega)
        go_wp2
        go_ret
        exact ⟨ret_bool (by rw [← HR.out]; unfold ofB; rw [HA.out, h1']; rfl), HL.out⟩
end Go.Proofs.YtnngbnhbmgdkoaaGreatDoor.E
