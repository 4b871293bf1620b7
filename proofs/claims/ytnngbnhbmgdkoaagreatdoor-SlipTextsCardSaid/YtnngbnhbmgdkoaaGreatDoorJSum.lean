/- The walk of journal.Sum and of the closure in it. -/
import Derived.Test.YtnngbnhbmgdkoaaGreatDoorJPure
import Derived.Test.YtnngbnhbmgdkoaaGreatDoorJCheck
import Derived.Test.YtnngbnhbmgdkoaaGreatDoorSum
import Derived.Test.YtnngbnhbmgdkoaaGreatDoorWLast
import Derived.Maps.AppendAt
import Derived.WalkKit
import Derived.Deep.DeepMust
import Derived.Lib.Hide
namespace Go.Proofs.YtnngbnhbmgdkoaaGreatDoor.E
open Go.RowKit Go.Proofs.YtnngbnhbmgdkoaaGreatDoor.P Go.Proofs.YtnngbnhbmgdkoaaGreatDoorW.PrintWords Go.Proofs.YtnngbnhbmgdkoaaGreatDoorW.PrintLast
def journal_Sum.f (l : List Ent_) (who asset : ByteArray) (a b : Int) : Option (Int × Int) := if l.length ≤ 1048576 ∧ ∀ x ∈ l, x.f3.length ≤ 1048576 then coin_Sum.f (gotOf l who asset a b) else none
theorem got_app (l m : List Ent_) (who asset : ByteArray) (a b : Int) : gotOf (l ++ m) who asset a b = gotOf l who asset a b ++ gotOf m who asset a b := by
  induction l with
  | nil => rfl
  | cons x l ih => simp only [List.cons_append, gotOf, ih, List.append_assoc]
theorem gotLegs_app (l m : List Leg_) (who asset : ByteArray) : gotLegs (l ++ m) who asset = gotLegs l who asset ++ gotLegs m who asset := by
  unfold gotLegs
  rw [List.filter_append, List.map_append]
def gotIn (x : Ent_) (m : List Leg_) (who asset : ByteArray) (a b : Int) : List Int := if a ≤ x.f1 ∧ x.f1 < b then gotLegs m who asset else []
theorem got_next (l : List Ent_) (who asset : ByteArray) (a b : Int) (k : Nat) (hk : k < l.length) (z : Ent_) : gotOf (l.take (k + 1)) who asset a b = gotOf (l.take k) who asset a b ++ gotIn (l.getD k z) (l.getD k z).f3 who asset a b := by
  rw [take_snoc_ l k hk z, got_app]
  unfold gotIn
  simp [gotOf]
theorem gotIn_next (x : Ent_) (m : List Leg_) (who asset : ByteArray) (a b : Int) (j : Nat) (hj : j < m.length) (z : Leg_) :
    gotIn x (m.take (j + 1)) who asset a b = gotIn x (m.take j) who asset a b ++ (if a ≤ x.f1 ∧ x.f1 < b then (if (m.getD j z).f0 = who ∧ (m.getD j z).f1 = asset then [(m.getD j z).f2] else []) else []) := by
  unfold gotIn
  split
  · rw [take_snoc_ m j hj z, gotLegs_app]
    congr 1
    generalize m.getD j z = y
    unfold gotLegs
    by_cases h : y.f0 = who ∧ y.f1 = asset
    · rw [if_pos h]
      simp [h]
    · rw [if_neg h]
      have : (decide (y.f0 = who) && decide (y.f1 = asset)) = false := by
        rw [Bool.eq_false_iff]
        simpa using h
      simp only [List.filter_cons, this]
      rfl
  · simp
/-- What was got so far is of what is got. -/
theorem got_pre (l : List Ent_) (who asset : ByteArray) (a b : Int) (k : Nat) (hk : k < l.length) (z : Ent_) (j : Nat) :
    ∃ t, gotOf l who asset a b = (gotOf (l.take k) who asset a b ++ gotIn (l.getD k z) ((l.getD k z).f3.take j) who asset a b) ++ t := by
  have h1 : gotOf l who asset a b = gotOf (l.take (k + 1)) who asset a b ++ gotOf (l.drop (k + 1)) who asset a b := by rw [← got_app, List.take_append_drop]
  have h2 : gotIn (l.getD k z) (l.getD k z).f3 who asset a b = gotIn (l.getD k z) ((l.getD k z).f3.take j) who asset a b ++ gotIn (l.getD k z) ((l.getD k z).f3.drop j) who asset a b := by
    unfold gotIn
    split
    · rw [← gotLegs_app, List.take_append_drop]
    · rfl
  rw [h1, got_next l who asset a b k hk z, h2]
  exact ⟨gotIn (l.getD k z) ((l.getD k z).f3.drop j) who asset a b ++ gotOf (l.drop (k + 1)) who asset a b, by simp only [List.append_assoc]⟩
theorem ents_get {w : World} {A : Option Addr} {l : List Ent_} (h : Kd.C k43 w A l.length l) (k : Nat) (hk : k < l.length) :
    ∃ ad A3 c3, A = some ad ∧ w.cell? (ad.add (k * 4)) = some (.int .u64 (l.getD k ⟨0, 0, ⟨#[]⟩, []⟩).f0) ∧ w.cell? ⟨(ad.add (k * 4)).block, (ad.add (k * 4)).off + 1, none⟩ = some (.int .u64 (l.getD k ⟨0, 0, ⟨#[]⟩, []⟩).f1) ∧ w.cell? ⟨(ad.add (k * 4)).block, (ad.add (k * 4)).off + 2, none⟩ = some (.string (l.getD k ⟨0, 0, ⟨#[]⟩, []⟩).f2) ∧
      w.cell? ⟨(ad.add (k * 4)).block, (ad.add (k * 4)).off + 3, none⟩ = some (.slice A3 (l.getD k ⟨0, 0, ⟨#[]⟩, []⟩).f3.length c3) ∧ Kd.C k40 w A3 (l.getD k ⟨0, 0, ⟨#[]⟩, []⟩).f3.length (l.getD k ⟨0, 0, ⟨#[]⟩, []⟩).f3 := by
  obtain ⟨ad, A3, c3, e, h0, h1, h2, h3, _, h5⟩ := at_T43 h (k : Int) (by omega) (by omega)
  exact ⟨ad, A3, c3, e, h0, h1, h2, h3, h5⟩
theorem within_calls (d a b : Int) (g h : Nat) (w : World) (hg : w.cell? ⟨g, 0, none⟩ = some (.int .u64 a)) (hh : w.cell? ⟨h, 0, none⟩ = some (.int .u64 b)) :
    Calls Tryz.prog 57 #[.int .u64 d, .pointer (some ⟨g, 0, none⟩), .pointer (some ⟨h, 0, none⟩)] w fun e w' => e = .returned (.bool (decide (a ≤ d) && decide (d < b))) ∧ w = w' := by
  by_cases h1 : a ≤ d
  · have h1a : decide (d ≥ a) = true := decide_eq_true h1
    have h1b : decide (a ≤ d) = true := decide_eq_true h1
    by_cases h2 : d < b
    · have h2a : decide (d < b) = true := decide_eq_true h2
      clear h1 h2
      go_enter Tryz.func57, Tryz.ntmps57
      go_wp2
      go_ret
      exact ⟨ret_bool (by rw [h1b, h2a]; rfl), rfl⟩
    · have h2a : decide (d < b) = false := decide_eq_false h2
      clear h1 h2
      go_enter Tryz.func57, Tryz.ntmps57
      go_wp2
      go_ret
      exact ⟨ret_bool (by rw [h1b, h2a]; rfl), rfl⟩
  · have h1a : decide (d ≥ a) = false := decide_eq_false h1
    have h1b : decide (a ≤ d) = false := decide_eq_false h1
    clear h1
    go_enter Tryz.func57, Tryz.ntmps57
    go_wp2
    go_ret
    exact ⟨ret_bool (by rw [h1b]; rfl), rfl⟩
/-- What was collected so far; the bounds of the days lie where they were captured. -/
structure SI (w : World) (a b : Int) (zs : List Int) (v : Value) (W : World) : Prop where
  own : W.ownsInts (w.heap.size + 2) 2 .i64 v zs
  below : Below w.heap.size w W
  g0 : Glob w
  lo : W.heap[w.heap.size]? = some (.cells #[.int .u64 a] 22 (0, 0))
  hi : W.heap[w.heap.size + 1]? = some (.cells #[.int .u64 b] 22 (0, 0))
theorem SI.step {w W W' : World} {a b : Int} {zs : List Int} {v : Value} (h : SI w a b zs v W) (hb : Below W.heap.size W W') : SI w a b zs v W' :=
  ⟨h.own.kept (grown_of_below hb none) (by cases v.ownBlock <;> simp), below_step h.below hb, h.g0, blk_below h.lo hb, blk_below h.hi hb⟩
theorem SI.glob {w W : World} {a b : Int} {zs : List Int} {v : Value} (h : SI w a b zs v W) : Glob W := h.g0.below h.below
theorem SI.size {w W : World} {a b : Int} {zs : List Int} {v : Value} (h : SI w a b zs v W) : w.heap.size + 2 ≤ W.heap.size := by
  have := blk_lt h.hi
  omega
theorem SI.more {w W W1 : World} {a b x : Int} {zs : List Int} {v v1 : Value} (h : SI w a b zs v W) (hown : W1.ownsInts (w.heap.size + 2) 2 .i64 v1 (zs ++ [x])) (hg : W.grownBy W1 v.ownBlock) : SI w a b (zs ++ [x]) v1 W1 := by
  have hne : ∀ k, k < w.heap.size + 2 → some k ≠ v.ownBlock := fun k hk e => by
    have := own_base h.own.1 k e.symm
    omega
  exact ⟨hown, pw_below_grown h.below _ h.below.size hg (fun k hk => by have := own_base h.own.1 k hk; omega), h.g0, blk_grown h.lo hg (hne _ (by omega)), blk_grown h.hi hg (hne _ (by omega))⟩
structure Stop_ (p : Prop) : Prop where
  out : p
set_option maxHeartbeats 4000000 in
set_option maxRecDepth 100000 in
set_option linter.unusedSimpArgs false in
theorem journal_Sum.calls (A0 : Option Addr) (c0 : Nat) (l0 : List Ent_) (a1 a2 : ByteArray) (a3 a4 : Int) (r1 r2 : Int) (w : World) (hG : Glob w) (hr0 : Kd.C k43 w A0 l0.length l0) (_hc0 : l0.length ≤ c0) (h : journal_Sum.f l0 a1 a2 a3 a4 = some (r1, r2)) :
    Calls Tryz.prog 40 #[.slice A0 l0.length c0, .string a1, .string a2, .int .u64 a3, .int .u64 a4] w fun e w' => e = .returned (.tuple #[.int .i64 r1, .int .i64 r2]) ∧ Below w.heap.size w w' := by
  unfold journal_Sum.f at h
  split at h
  case isFalse => cases h
  rename_i hbl
  obtain ⟨hll, hlm⟩ := hbl
  have hb0 : (gotOf l0 a1 a2 a3 a4).length ≤ 1048576 ∧ ∀ x ∈ gotOf l0 a1 a2 a3 a4, in64 x := by
    unfold coin_Sum.f at h
    split at h
    · assumption
    · cases h
  have HBND := Lib.hid hb0; clear hb0
  have HF := Lib.hid h; clear h
  have HL := Lib.hid hr0; clear hr0
  have HLL := Lib.hid hll; have HLMX := Lib.hid hlm; clear hll hlm
  have HG := Lib.hid hG; clear hG
  obtain ⟨i0, hi, hz0, hz1, hz2⟩ := info_parts info_i
  have hsi : SI w a3 a4 [] (.slice none 0 0) ((w.alloc (.cells #[.int .u64 a3] 22)).alloc (.cells #[.int .u64 a4] 22)) :=
    ⟨World.ownsInts_nil _ _ _ _, below_alloc (below_alloc (Below.refl _ _) _) _, HG.out, blk_alloc (heap_alloc_new w _) _, by simpa using heap_alloc_new (w.alloc (.cells #[.int .u64 a3] 22)) (.cells #[.int .u64 a4] 22)⟩
  have HSI := Lib.hid hsi; clear hsi
  go_enter Tryz.func40, Tryz.ntmps40
  go_wp2
  go_loopw [13, 21] (fun v i wr => ∃ k : Nat, k ≤ l0.length ∧ i = .int .i64 k ∧ Hid (SI w a3 a4 (gotOf (l0.take k) a1 a2 a3 a4) v wr)) (fun _ i _ => l0.length - (intOf i).toNat)
  case atStart => exact ⟨0, Nat.zero_le _, rfl, HSI⟩
  case round =>
    clear HSI
    obtain ⟨k, hk, rfl, HSI⟩ := hrel
    obtain ⟨wo, rfl⟩ : ∃ wo : World, wo = wr := ⟨_, rfl⟩
    by_cases hlt : k < l0.length
    · obtain ⟨x, hx⟩ : ∃ x, l0.getD k ⟨0, 0, ⟨#[]⟩, []⟩ = x := ⟨_, rfl⟩
      obtain ⟨ad, A3, c3, had, q0, q1, q2, q3, hlegs⟩ := ents_get HL.out k hlt
      subst had
      rw [hx] at q0 q1 q2 q3 hlegs
      replace q0 := (HSI.out.below.cell (World.block_lt_of_cell? w _ q0)).trans q0
      replace q1 := (HSI.out.below.cell (World.block_lt_of_cell? w _ q1)).trans q1
      replace q2 := (HSI.out.below.cell (World.block_lt_of_cell? w _ q2)).trans q2
      replace q3 := (HSI.out.below.cell (World.block_lt_of_cell? w _ q3)).trans q3
      have HLG := Lib.hid hlegs; clear hlegs
      have HX := Lib.hid hx; clear hx
      have hxm : x ∈ l0 := HX.out ▸ getD_mem_ l0 k hlt _
      have hml : x.f3.length ≤ 1048576 := HLMX.out x hxm
      have hkl : l0.length ≤ 1048576 := HLL.out
      clear hxm
      go_wp2_with ((with_reducible refine gate_dst (N := 15) rfl ?_); refine box_event ?hg (N := 15) ?hd (cs := #[.int .u64 0, .int .u64 0, .string ⟨#[]⟩, .slice none 0 0]) (t := 43) ?hr ?_; (case hd => rfl); (case hg => rfl); (case hr => first | (go_simp; done) | (go_simp; rfl)); intro gb hgb w5 hbx hb; have HGE := Lib.hid (show wo.heap.size ≤ gb by omega); have HB5 := Lib.hid hb; have b0 : w5.cell? ⟨gb, 0, none⟩ = some (.int .u64 0) := (blk_cell hbx 0).trans rfl; have b1 : w5.cell? ⟨gb, 1, none⟩ = some (.int .u64 0) := (blk_cell hbx 1).trans rfl; have b2 : w5.cell? ⟨gb, 2, none⟩ = some (.string ⟨#[]⟩) := (blk_cell hbx 2).trans rfl; have b3 : w5.cell? ⟨gb, 3, none⟩ = some (.slice none 0 0) := (blk_cell hbx 3).trans rfl; have f0 := blk_frozen hbx 0; have f1 := blk_frozen hbx 1; have f2 := blk_frozen hbx 2; have f3 := blk_frozen hbx 3; have HBX := Lib.hid hbx; clear hb hbx hgb)
      have hbz : Below wo.heap.size wo ((((w5.setCell ⟨gb, 0, none⟩ (.int .u64 x.f0)).setCell ⟨gb, 1, none⟩ (.int .u64 x.f1)).setCell ⟨gb, 2, none⟩ (.string x.f2)).setCell ⟨gb, 3, none⟩ (.slice A3 x.f3.length c3)) := below_set (below_set (below_set (below_set HB5.out HGE.out) HGE.out) HGE.out) HGE.out
      have hsx := Lib.hid (HSI.out.step hbz)
      have hby := blk_put (blk_put (blk_put (blk_put (cs' := #[.int .u64 x.f0, .int .u64 0, .string ⟨#[]⟩, .slice none 0 0]) HBX.out 0 (.int .u64 x.f0) rfl) (cs' := #[.int .u64 x.f0, .int .u64 x.f1, .string ⟨#[]⟩, .slice none 0 0]) 1 (.int .u64 x.f1) rfl) (cs' := #[.int .u64 x.f0, .int .u64 x.f1, .string x.f2, .slice none 0 0]) 2 (.string x.f2) rfl) (cs' := #[.int .u64 x.f0, .int .u64 x.f1, .string x.f2, .slice A3 x.f3.length c3]) 3 (.slice A3 x.f3.length c3) rfl
      have HBY := Lib.hid hby; clear hby
      clear hbz
      clear b0 b1 b2 b3 f0 f1 f2 f3 HBX q0 q1 q2 q3
      go_loopw [13, 28] (fun v i wr => ∃ j : Nat, j ≤ x.f3.length ∧ i = .int .i64 j ∧ Hid (SI w a3 a4 (gotOf (l0.take k) a1 a2 a3 a4 ++ gotIn x (x.f3.take j) a1 a2 a3 a4) v wr) ∧ Hid (wr.heap[gb]? = some (.cells #[.int .u64 x.f0, .int .u64 x.f1, .string x.f2, .slice A3 x.f3.length c3] 43 (0, 0)))) (fun _ i _ => x.f3.length - (intOf i).toNat)
      case atStart => exact ⟨0, Nat.zero_le _, rfl, Lib.hid (by have := hsx.out; simpa [gotIn, gotLegs] using this), HBY⟩
      case round =>
        clear hsx HBY HSI HB5 HGE
        obtain ⟨j, hj, rfl, HSJ, HBY⟩ := hrel
        obtain ⟨wi, rfl⟩ : ∃ wi : World, wi = wr := ⟨_, rfl⟩
        by_cases hlj : j < x.f3.length
        · obtain ⟨y, hy⟩ : ∃ y, x.f3.getD j ⟨⟨#[]⟩, ⟨#[]⟩, 0⟩ = y := ⟨_, rfl⟩
          obtain ⟨ae, hae, p0, p1, p2⟩ := legs_get HLG.out j (by omega)
          subst hae
          rw [hy] at p0 p1 p2
          replace p0 := (HSJ.out.below.cell (World.block_lt_of_cell? w _ p0)).trans p0
          replace p1 := (HSJ.out.below.cell (World.block_lt_of_cell? w _ p1)).trans p1
          replace p2 := (HSJ.out.below.cell (World.block_lt_of_cell? w _ p2)).trans p2
          have HNX := Lib.hid (gotIn_next x x.f3 a1 a2 a3 a4 j (by omega) ⟨⟨#[]⟩, ⟨#[]⟩, 0⟩)
          rw [hy] at HNX
          clear hy
          obtain ⟨q, hq⟩ : ∃ q, (decide (a3 ≤ x.f1) && decide (x.f1 < a4)) = q := ⟨_, rfl⟩
          obtain ⟨sw, hsw⟩ : ∃ b, (y.f0.toList == a1.toList) = b := ⟨_, rfl⟩
          obtain ⟨sa, hsa⟩ : ∃ b, (y.f1.toList == a2.toList) = b := ⟨_, rfl⟩
          have HQ := Lib.hid hq
          have HNX2 : Hid (gotIn x (x.f3.take (j + 1)) a1 a2 a3 a4 = gotIn x (x.f3.take j) a1 a2 a3 a4 ++ (if (q && sw && sa) = true then [y.f2] else [])) := Lib.hid (by
            rw [HNX.out]
            congr 1
            have e1 : (y.f0 = a1 ↔ sw = true) := by rw [← hsw, beq_iff_eq, toList_inj]
            have e2 : (y.f1 = a2 ↔ sa = true) := by rw [← hsa, beq_iff_eq, toList_inj]
            have e3 : (a3 ≤ x.f1 ∧ x.f1 < a4) ↔ q = true := by rw [← hq, Bool.and_eq_true, decide_eq_true_eq, decide_eq_true_eq]
            by_cases h1 : q = true <;> by_cases h2 : sw = true <;> by_cases h3 : sa = true <;> simp [e1, e2, e3, h1, h2, h3])
          clear HNX
          have hz : ∀ W7, Below wi.heap.size wi W7 → ∀ g, wi.heap.size ≤ g → ∀ u0 u1 u2, Below wi.heap.size wi (((W7.setCell ⟨g, 0, none⟩ u0).setCell ⟨g, 1, none⟩ u1).setCell ⟨g, 2, none⟩ u2) := fun W7 h g hg _ _ _ => below_set (below_set (below_set h hg) hg) hg
          have HZ := Lib.hid hz; clear hz
          have hpre := got_pre l0 a1 a2 a3 a4 k hlt ⟨0, 0, ⟨#[]⟩, []⟩ j
          rw [HX.out] at hpre
          have HLEN0 : Hid ((gotOf (l0.take k) a1 a2 a3 a4 ++ gotIn x (x.f3.take j) a1 a2 a3 a4).length ≤ 1048576) := Lib.hid (by
            obtain ⟨t, ht⟩ := hpre
            have := HBND.out.1
            rw [ht, List.length_append] at this
            omega)
          have HLEN1 : Hid ((gotOf (l0.take k) a1 a2 a3 a4 ++ gotIn x (x.f3.take j) a1 a2 a3 a4).length + 1 ≤ maxLen) := Lib.hid (by have := HLEN0.out; unfold maxLen; omega)
          have HLEN2 : Hid (((gotOf (l0.take k) a1 a2 a3 a4 ++ gotIn x (x.f3.take j) a1 a2 a3 a4).length + 1) * 8 ≤ 140737488355328) := Lib.hid (by have := HLEN0.out; omega)
          clear hpre HLEN0
          go_upto_region 9 with ((with_reducible refine gate_dst (N := 17) rfl ?_); refine box_event ?hg (N := 17) ?hd (cs := #[.string ⟨#[]⟩, .string ⟨#[]⟩, .int .i64 0]) (t := 40) ?hr ?_; (case hd => rfl); (case hg => rfl); (case hr => first | (go_simp; done) | (go_simp; rfl)); intro gc hgc w7 hbx hb; have HGE2 := Lib.hid (show wi.heap.size ≤ gc by omega); have HB7 := Lib.hid hb; have d0 : w7.cell? ⟨gc, 0, none⟩ = some (.string ⟨#[]⟩) := (blk_cell hbx 0).trans rfl; have d1 : w7.cell? ⟨gc, 1, none⟩ = some (.string ⟨#[]⟩) := (blk_cell hbx 1).trans rfl; have d2 : w7.cell? ⟨gc, 2, none⟩ = some (.int .i64 0) := (blk_cell hbx 2).trans rfl; have e0 := blk_frozen hbx 0; have e1 := blk_frozen hbx 1; have e2 := blk_frozen hbx 2; have hgy : w7.cell? ⟨gb, 1, none⟩ = some (.int .u64 x.f1) := (blk_cell (blk_below HBY.out hb) 1).trans rfl; have hne : gb ≠ gc := (by have := blk_lt HBY.out; omega); have hne2 : gc ≠ gb := Ne.symm hne; have l0_ : w7.cell? ⟨w.heap.size, 0, none⟩ = some (.int .u64 a3) := (blk_cell (blk_below HSJ.out.lo hb) 0).trans rfl; have l1_ : w7.cell? ⟨w.heap.size + 1, 0, none⟩ = some (.int .u64 a4) := (blk_cell (blk_below HSJ.out.hi hb) 0).trans rfl; have hnl : w.heap.size ≠ gc := (by have := HSJ.out.size; omega); have hnh : w.heap.size + 1 ≠ gc := (by have := HSJ.out.size; omega); have HSZ := Lib.hid (HSJ.out.step (HZ.out w7 hb gc (by omega) (.string y.f0) (.string y.f1) (.int .i64 y.f2))); have HBZ := Lib.hid (blk_far (blk_far (blk_far (blk_below HBY.out hb) (p := ⟨gc, 0, none⟩) hne (.string y.f0)) (p := ⟨gc, 1, none⟩) hne (.string y.f1)) (p := ⟨gc, 2, none⟩) hne (.int .i64 y.f2)); have HBK := Lib.hid (blk_put (blk_put (blk_put (cs' := #[.string y.f0, .string ⟨#[]⟩, .int .i64 0]) hbx 0 (.string y.f0) rfl) (cs' := #[.string y.f0, .string y.f1, .int .i64 0]) 1 (.string y.f1) rfl) (cs' := #[.string y.f0, .string y.f1, .int .i64 y.f2]) 2 (.int .i64 y.f2) rfl); clear hb hbx hgc)
          generalize (((w7.setCell ⟨gc, 0, none⟩ (.string y.f0)).setCell ⟨gc, 1, none⟩ (.string y.f1)).setCell ⟨gc, 2, none⟩ (.int .i64 y.f2)) = wz at HSZ HBZ HBK ⊢
          clear l0_ l1_ d0 d1 d2 e0 e1 e2 hgy p0 p1 p2 hne hne2 hnl hnh HZ HB7 HGE2
          have HCALL : Hid (Calls Tryz.prog 57 #[.int .u64 x.f1, .pointer (some ⟨w.heap.size, 0, none⟩), .pointer (some ⟨w.heap.size + 1, 0, none⟩)] wz fun e w' => e = .returned (.bool (decide (a3 ≤ x.f1) && decide (x.f1 < a4))) ∧ wz = w') :=
            Lib.hid (within_calls x.f1 a3 a4 _ _ _ ((blk_cell HSZ.out.lo 0).trans rfl) ((blk_cell HSZ.out.hi 0).trans rfl))
          have k0 : wz.cell? ⟨gc, 0, none⟩ = some (.string y.f0) := (blk_cell HBK.out 0).trans rfl
          have k1 : wz.cell? ⟨gc, 1, none⟩ = some (.string y.f1) := (blk_cell HBK.out 1).trans rfl
          have k2 : wz.cell? ⟨gc, 2, none⟩ = some (.int .i64 y.f2) := (blk_cell HBK.out 2).trans rfl
          have k3 : wz.cell? ⟨gb, 1, none⟩ = some (.int .u64 x.f1) := (blk_cell HBZ.out 1).trans rfl
          cases q with
          | false =>
            clear HLEN1 HLEN2
            rw [HQ.out] at HCALL
            go_wp2_with (go_at_call 57; refine (HCALL.out).mono ?_; rintro e w8 ⟨rfl, rfl⟩)
            go_roundw
            case rel => exact ⟨j + 1, by omega, by go_num, Lib.hid (by rw [HNX2.out]; simpa using HSZ.out), HBZ⟩
            case measure => simp [intOf]; omega
          | true =>
            cases sw with
            | false =>
              clear HLEN1 HLEN2
              rw [HQ.out] at HCALL
              go_wp2_with (go_at_call 57; refine (HCALL.out).mono ?_; rintro e w8 ⟨rfl, rfl⟩)
              go_roundw
              case rel => exact ⟨j + 1, by omega, by go_num, Lib.hid (by rw [HNX2.out]; simpa using HSZ.out), HBZ⟩
              case measure => simp [intOf]; omega
            | true =>
              cases sa with
              | false =>
                clear HLEN1 HLEN2
                rw [HQ.out] at HCALL
                go_wp2_with (go_at_call 57; refine (HCALL.out).mono ?_; rintro e w8 ⟨rfl, rfl⟩)
                go_roundw
                case rel => exact ⟨j + 1, by omega, by go_num, Lib.hid (by rw [HNX2.out]; simpa using HSZ.out), HBZ⟩
                case measure => simp [intOf]; omega
              | true =>
                have hpre := got_pre l0 a1 a2 a3 a4 k hlt ⟨0, 0, ⟨#[]⟩, []⟩ (j + 1)
                rw [HX.out, HNX2.out] at hpre
                have H64 : Hid (in64 y.f2) := Lib.hid (by
                  obtain ⟨t, ht⟩ := hpre
                  refine HBND.out.2 y.f2 ?_
                  rw [ht]
                  simp)
                clear hpre
                rw [HQ.out] at HCALL
                go_wp2_with (first | (go_at_call 57; refine (HCALL.out).mono ?_; rintro e w8 ⟨rfl, rfl⟩) | (at_builtin; refine Stop_.out (p := _) ?_))
                refine ⟨?_⟩
                refine wpList_append_own_at _ rfl _ _ 83 rfl (w.heap.size + 2) 2 i0 (.int .i64 0) 1 8 Tryz.underlying83 hi hz0 hz1 hz2 rfl (by decide) _ _ _ rfl ((HSZ.out.step (below_alloc (Below.refl _ _) _)).own.1) ⟨_, 0, none⟩ 1 1 [.int .i64 y.f2] rfl rfl (cell_one_new _ _ _) (by simp [Value.oneCell']) HLEN1.out HLEN2.out (Nat.le_trans HSZ.out.size (by simp)) ?_
                intro v1 w9 hown1 hgrow1 hnil1 hloc1
                have hsa := HSZ.out.step (below_alloc (Below.refl _ _) (.cells #[.int .i64 y.f2] 2))
                have hba := blk_alloc HBZ.out (.cells #[.int .i64 y.f2] 2)
                have HSN := Lib.hid (hsa.more (hsa.own.appended hown1 (wf_64 H64.out)) hgrow1)
                have HBN := Lib.hid (blk_grown hba hgrow1 (blk_not_own hba hsa.own (by decide)))
                clear hown1 hgrow1 hnil1 hloc1 hsa hba
                go_wp2
                go_roundw
                case rel => exact ⟨j + 1, by omega, by go_num, Lib.hid (by rw [HNX2.out]; simpa [List.append_assoc] using HSN.out), HBN⟩
                case measure => simp [intOf]; omega
        · obtain rfl : j = x.f3.length := by omega
          have HEND : Hid (SI w a3 a4 (gotOf (l0.take (k + 1)) a1 a2 a3 a4) u13 wi) := Lib.hid (by
            have h1 := HSJ.out
            rw [got_next l0 a1 a2 a3 a4 k hlt ⟨0, 0, ⟨#[]⟩, []⟩, HX.out]
            rwa [List.take_length] at h1)
          go_wp2
          go_roundw
          case rel => exact ⟨k + 1, by omega, by go_num, HEND⟩
          case measure => simp [intOf]; omega
    · obtain rfl : k = l0.length := by omega
      obtain ⟨A, c, hv, hmc, hC⟩ := Kd.R_reads (Kd.R_of_own (enc := Value.int .i64) (h1 := fun _ => rfl) (ok := fun _ => True) HSI.out.own.1 (fun _ _ => trivial))
      subst hv
      have hgw := HSI.out.glob
      have HSUM : Hid (Calls Tryz.prog 52 #[.slice A (gotOf (l0.take l0.length) a1 a2 a3 a4).length c] wo fun e w' => e = .returned (.tuple #[.int .i64 r1, .int .i64 r2]) ∧ Below wo.heap.size wo w') :=
        Lib.hid (coin_Sum.calls A c _ r1 r2 wo hgw hC hmc (by rw [List.take_length]; exact HF.out))
      clear hgw hC hmc
      obtain ⟨n, hn⟩ : ∃ n, (gotOf (l0.take l0.length) a1 a2 a3 a4).length = n := ⟨_, rfl⟩
      rw [hn] at HSUM ⊢
      clear hn
      go_wp2_with (go_at_call 52; refine (HSUM.out).mono ?_; rintro e w6 ⟨rfl, hb⟩; have HB6 := Lib.hid hb; clear hb)
      go_ret2
      exact ⟨rfl, below_step HSI.out.below HB6.out⟩
end Go.Proofs.YtnngbnhbmgdkoaaGreatDoor.E
