/- The lines that are taken: (*slip.source).words, (*slip.source).next. -/
import Derived.Test.YtnngbnhbmgdkoaaGreatDoorSNeeds
import Derived.Test.YtnngbnhbmgdkoaaGreatDoorOf
namespace Go.Proofs.YtnngbnhbmgdkoaaGreatDoor.E
open Go.RowKit Go.Proofs.YtnngbnhbmgdkoaaGreatDoor.P Go.Proofs.YtnngbnhbmgdkoaaGreatDoorW.PrintWords Go.Proofs.YtnngbnhbmgdkoaaGreatDoorW.PrintLast
/-- The reader lies where it was made, behind the world w0. -/
structure RdS (w0 : World) (cs : Array Value) (W : World) : Prop where
  below : Below w0.heap.size w0 W
  g0 : Glob w0
  blk : W.heap[w0.heap.size]? = some (.cells cs 67 (0, 0))
theorem RdS.step {w0 W W' : World} {cs : Array Value} (h : RdS w0 cs W) (hb : Below W.heap.size W W') : RdS w0 cs W' := ⟨below_step h.below hb, h.g0, blk_below h.blk hb⟩
theorem RdS.glob {w0 W : World} {cs : Array Value} (h : RdS w0 cs W) : Glob W := h.g0.below h.below
theorem RdS.lt {w0 W : World} {cs : Array Value} (h : RdS w0 cs W) : w0.heap.size < W.heap.size := blk_lt h.blk
theorem RdS.put {w0 W : World} {cs cs' : Array Value} (h : RdS w0 cs W) (i : Nat) (u : Value) (e : cs.setIfInBounds i u = cs') : RdS w0 cs' (W.setCell ⟨w0.heap.size, i, none⟩ u) := ⟨below_set h.below (Nat.le_refl _), h.g0, blk_put h.blk i u e⟩
def blank : ByteArray := ⟨#[32]⟩
/-- Does the next line begin with a word? -/
def nextB (first : ByteArray) : List ByteArray → Bool
  | [] => false
  | s :: _ => Lib.hasPrefix s.data.toList (first ++ blank).data.toList
theorem str_first {w : World} {A : Option Addr} {s : ByteArray} {t : List ByteArray} (h : Kd.C Kd.string w A (s :: t).length (s :: t)) : ∃ ad, A = some ad ∧ w.cell? ad = some (.string s) ∧ w.cell? (ad.add 0) = some (.string s) := by
  rcases str_cells h with h0 | ⟨ad, rfl, hc⟩
  · simp at h0
  · have h00 := hc 0 (by simp)
    have e : ad.add 0 = ad := by unfold Addr.add; simp
    refine ⟨ad, rfl, ?_, h00⟩
    rw [e] at h00
    exact h00
set_option maxHeartbeats 1000000 in
theorem next_calls (w0 W : World) (A : Option Addr) (c : Nat) (L : List ByteArray) (x1 x2 x3 x4 x5 x6 : Value) (first : ByteArray) (hf : first.size ≤ 1000) (h : RdS w0 #[.slice A L.length c, x1, x2, x3, x4, x5, x6] W) (hC : Kd.C Kd.string w0 A L.length L) :
    Calls Tryz.prog 50 #[.pointer (some ⟨w0.heap.size, 0, none⟩), .string first] W fun e w' => e = .returned (.bool (nextB first L)) ∧ Below W.heap.size W w' := by
  have q0 : W.cell? ⟨w0.heap.size, 0, none⟩ = some (.slice A L.length c) := (blk_cell h.blk 0).trans rfl
  cases L with
  | nil =>
    have n1 : decide ((([] : List ByteArray).length : Int) > 0) = false := by decide
    clear h hC
    go_enter Tryz.func50, Tryz.ntmps50
    go_wp2
    go_ret
    exact ⟨rfl, Below.refl _ _⟩
  | cons s t =>
    obtain ⟨ad, rfl, p0, p1⟩ := str_first (Kd.C_below hC h.below)
    have n1 : decide (((s :: t).length : Int) > 0) = true := decide_eq_true (by simp only [List.length_cons]; omega)
    have hp2 : (9223372036854775807 < first.size + 1) = False := eq_false (by omega)
    have n2 : (0 : Int) < ((s :: t).length : Int) := by simp only [List.length_cons]; omega
    have n3 : 0 < (s :: t).length := by simp
    have HP : Hid (∀ W, Calls Tryz.prog 70 #[.string s, .string (first ++ blank)] W fun e w' => e = .returned (.bool (nextB first (s :: t))) ∧ w' = W) := Lib.hid fun W => Tryz.strings_HasPrefix s (first ++ blank) W
    clear h hC
    generalize nextB first (s :: t) = b at HP ⊢
    generalize (s :: t).length = n at *
    go_enter Tryz.func50, Tryz.ntmps50
    go_wp2_with (go_at_call 70; refine (HP.out _).mono ?_; rintro e w1 ⟨rfl, rfl⟩)
    go_ret
    exact ⟨rfl, Below.refl _ _⟩
/-- A line of so many words, the first of which is known. -/
def okW (first : ByteArray) (count : Nat) (ws : List ByteArray) : Bool := decide (ws.length = count) && decide (ws.getD 0 ⟨#[]⟩ = first)
theorem cutAt_pos (c : UInt8) (l : List UInt8) : 0 < (cutAt c l).length := by
  cases h : cutAt c l with
  | nil => exact absurd h (cutAt_ne c l)
  | cons x t => simp
theorem split_pos (s : ByteArray) (c : UInt8) : 0 < (splitOn s c).length := by
  unfold splitOn
  rw [List.length_map]
  exact cutAt_pos _ _
theorem split_calls (s : ByteArray) (c : UInt8) (hs : s.size ≤ 1000000) (W : World) (hG : Glob W) :
    Calls Tryz.prog 25 #[.string s, .string ⟨#[c]⟩] W fun e w' => ∃ v_ : Value, e = .returned v_ ∧ Kd.R Kd.string 9 w' W.heap.size (fun _ => True) v_ (splitOn s c) ∧ Below W.heap.size W w' :=
  strings_Split.calls s ⟨#[c]⟩ (splitOn s c) W hG (by unfold strings_Split.f; rw [if_pos (by omega)])
set_option maxHeartbeats 2000000 in
theorem words_none (w0 W : World) (A : Option Addr) (c : Nat) (x1 x2 x3 x4 x5 x6 : Value) (first : ByteArray) (count : Int) (h : RdS w0 #[.slice A ([] : List ByteArray).length c, x1, x2, x3, x4, x5, x6] W) :
    Calls Tryz.prog 47 #[.pointer (some ⟨w0.heap.size, 0, none⟩), .string first, .int .i64 count] W fun e w' => e = gaveUp ∧ RdS w0 #[.slice A ([] : List ByteArray).length c, x1, x2, x3, x4, x5, x6] w' := by
  have q0 : W.cell? ⟨w0.heap.size, 0, none⟩ = some (.slice A 0 c) := (blk_cell h.blk 0).trans rfl
  have HI := Lib.hid h
  clear h
  go_enter Tryz.func47, Tryz.ntmps47
  go_wp2_with (go_at_call 26; refine (needs_no _).mono ?_; rintro e w3 ⟨rfl, rfl⟩)
  exact ⟨rfl, rfl, HI.out⟩
set_option maxHeartbeats 4000000 in
set_option maxRecDepth 100000 in
theorem words_some (w0 W : World) (A : Option Addr) (c : Nat) (s : ByteArray) (t : List ByteArray) (x1 x2 x3 x4 x5 x6 : Value) (first : ByteArray) (count : Nat) (h : RdS w0 #[.slice A (s :: t).length c, x1, x2, x3, x4, x5, x6] W) (hC : Kd.C Kd.string w0 A (s :: t).length (s :: t)) (hc : (s :: t).length ≤ c) (hs : s.size ≤ 1000000) (_hcount : count ≤ 1000) :
    ∃ A1, Kd.C Kd.string w0 A1 t.length t ∧ t.length ≤ c - 1 ∧ Calls Tryz.prog 47 #[.pointer (some ⟨w0.heap.size, 0, none⟩), .string first, .int .i64 (count : Int)] W fun e w' => KeepBut W w' w0.heap.size none ∧ RdS w0 #[.slice A1 t.length (c - 1), x1, x2, x3, x4, x5, x6] w' ∧
      (if okW first count (splitOn s 32) = true then ∃ Aw cw, e = .returned (.slice Aw ((splitOn s 32).drop 1).length cw) ∧ Kd.C Kd.string w' Aw ((splitOn s 32).drop 1).length ((splitOn s 32).drop 1) ∧ ((splitOn s 32).drop 1).length ≤ cw else e = gaveUp) := by
  obtain ⟨i9, hi9, _, hz9, _⟩ := info_parts (show (Tryz.prog.info? 9).map (fun i => (i.zero, i.size, i.bytes)) = some (some (.string ⟨#[]⟩), 1, 16) by kernel_rfl)
  have hd := Kd.C_drop (m := 1) hC (by simp) hc
  have hl1 : (s :: t).length = t.length + 1 := rfl
  refine ⟨if c = 1 then A else A.map (·.add (1 * 1)), hd, by omega, ?_⟩
  have hs1 : ∀ W : World, (Instr.slice 51 (.slice A (s :: t).length c) (some (.int .i64 1)) none none).run Tryz.prog W = .ok (.slice (if c = 1 then A else A.map (·.add (1 * 1))) t.length (c - 1)) W := fun W =>
    cut_from (P := Tryz.prog) 51 9 .i64 Tryz.underlying51 hi9 1 hz9 A (s :: t).length c 1 (by decide) (by simp only [List.length_cons]; omega) W
  obtain ⟨A1, hA1⟩ : ∃ A1, A1 = (if c = 1 then A else A.map (·.add (1 * 1))) := ⟨_, rfl⟩
  rw [← hA1] at hs1 ⊢
  have q0 : W.cell? ⟨w0.heap.size, 0, none⟩ = some (.slice A (s :: t).length c) := (blk_cell h.blk 0).trans rfl
  obtain ⟨ad, hAd, p0, p1⟩ := str_first (Kd.C_below hC h.below)
  subst hAd
  have HS : Hid (∀ W, Glob W → Calls Tryz.prog 25 #[.string s, .string ⟨#[32]⟩] W fun e w' => ∃ v_ : Value, e = .returned v_ ∧ Kd.R Kd.string 9 w' W.heap.size (fun _ => True) v_ (splitOn s 32) ∧ Below W.heap.size W w') := Lib.hid fun W hW => split_calls s 32 hs W hW
  have HI := Lib.hid h
  have hpos := split_pos s 32
  have n1 : decide (((s :: t).length : Int) > 0) = true := decide_eq_true (by omega)
  have n2 : (0 : Int) < ((s :: t).length : Int) := by omega
  have n3 : 0 < (s :: t).length := by simp
  obtain ⟨ws, hws⟩ : ∃ ws, splitOn s 32 = ws := ⟨_, rfl⟩
  rw [hws] at HS hpos ⊢
  clear hws hA1 hd hC h hl1 hs
  obtain ⟨n, hn⟩ : ∃ n, (s :: t).length = n := ⟨_, rfl⟩
  rw [hn] at q0 n1 n2 n3 hs1 HI hc
  have hw0 : W.frozen? ⟨w0.heap.size, 0, none⟩ = false := blk_frozen HI.out.blk 0
  have f1 : ∀ W1, Below W.heap.size W W1 → W1.cell? ⟨w0.heap.size, 0, none⟩ = some (.slice (some ad) n c) := fun W1 hb => (blk_cell (blk_below HI.out.blk hb) 0).trans rfl
  have f2 : ∀ W1, Below W.heap.size W W1 → W1.frozen? ⟨w0.heap.size, 0, none⟩ = false := fun W1 hb => blk_frozen (blk_below HI.out.blk hb) 0
  have HF1 := Lib.hid f1; have HF2 := Lib.hid f2; clear f1 f2
  have HN := Lib.hid hn; clear hn hc
  /- Behind the store: the words' cells. -/
  have HW : Hid (∀ W1 v, Below W.heap.size W W1 → Kd.R Kd.string 9 W1 W.heap.size (fun _ => True) v ws → Kd.C Kd.string (W1.setCell ⟨w0.heap.size, 0, none⟩ (.slice A1 t.length (c - 1))) (match v with | .slice a _ _ => a | _ => none) ws.length ws ∧ ∃ a cw, v = .slice a ws.length cw ∧ ws.length ≤ cw ∧ KeepBut W (W1.setCell ⟨w0.heap.size, 0, none⟩ (.slice A1 t.length (c - 1))) w0.heap.size none ∧ RdS w0 #[.slice A1 t.length (c - 1), x1, x2, x3, x4, x5, x6] (W1.setCell ⟨w0.heap.size, 0, none⟩ (.slice A1 t.length (c - 1)))) := Lib.hid (fun W1 v hb hR => by
    have hlt := HI.out.lt
    have h2 := Kd.R_far (p := ⟨w0.heap.size, 0, none⟩) (Kd.R_bound hR) (fun k hk => by have := hk.2.1; show k ≠ w0.heap.size; omega) (.slice A1 t.length (c - 1))
    obtain ⟨a, cw, hv⟩ := Kd.R_slice hR
    subst hv
    have h3 := Kd.R_reads' h2
    exact ⟨h3.2.2, a, cw, rfl, h3.2.1, ⟨by simpa [World.setCell] using hb.size, fun i hi hg _ => (Below.heap_setCell W1 _ _ i hg).trans (hb.block i hi)⟩, (HI.out.step hb).put 0 _ rfl⟩)
  have hws0 : ∃ w1 wt, ws = w1 :: wt := by
    cases ws with
    | nil => simp at hpos
    | cons a b => exact ⟨a, b, rfl⟩
  clear hpos
  obtain ⟨v1, wt, hv1⟩ := hws0
  subst hv1
  have hok : okW first count (v1 :: wt) = (decide ((v1 :: wt).length = count) && decide (v1 = first)) := rfl
  have e1 : (v1 :: wt).drop 1 = wt := rfl
  simp only [hok, e1]
  clear hok e1
  obtain ⟨mw, hmw⟩ : ∃ mw, (v1 :: wt).length = mw := ⟨_, rfl⟩
  rw [hmw] at HW
  simp only [hmw]
  have hlw : wt.length = mw - 1 := (by simp only [List.length_cons] at hmw; omega)
  simp only [hlw]
  have HMW := Lib.hid hmw
  clear hlw
  have hm1 : (0 : Int) < (mw : Int) := by simp only [List.length_cons] at hmw; omega
  have hm2 : 0 < mw := by omega
  clear hmw
  by_cases k1 : mw = count
  · have m1 : ((mw : Int) == (count : Int)) = true := beq_iff_eq.2 (by omega)
    by_cases k2 : v1 = first
    · have m2 : (v1.toList == first.toList) = true := by rw [k2]; exact beq_self_eq_true _
      have hd : (decide (mw = count) && decide (v1 = first)) = true := by rw [decide_eq_true k1, decide_eq_true k2]; rfl
      simp only [if_pos hd]
      clear hd k1 k2
      go_enter Tryz.func47, Tryz.ntmps47
      go_upto_region 4 with (first | (go_at_call 26; refine (needs_yes _).mono ?_; rintro e w3 ⟨rfl, rfl⟩) | (go_at_call 25; refine (HS.out _ HI.out.glob).mono ?_; rintro e w1 ⟨v, rfl, hR, hb⟩; obtain ⟨hCw, a, cw, hv, hcw, hkb, hRI⟩ := HW.out w1 v hb hR; subst hv; have HKB := Lib.hid hkb; clear hkb; have HCW := Lib.hid hCw; have HCC := Lib.hid hcw; have HRI := Lib.hid hRI; have g1 := HF1.out w1 hb; have g2 := HF2.out w1 hb; clear hCw hcw hRI hR hb q0 p0 p1 HS HW HF1 HF2 hw0))
      generalize w1.setCell ⟨w0.heap.size, 0, none⟩ (.slice A1 t.length (c - 1)) = w2 at HCW HRI HKB ⊢
      clear g1 g2 hs1
      obtain ⟨ad2, hAd2, r0, r1⟩ := str_first (s := v1) (t := wt) (by rw [HMW.out]; exact HCW.out)
      subst hAd2
      have hs2 : ∀ W : World, (Instr.slice 51 (.slice (some ad2) mw cw) (some (.int .i64 1)) none none).run Tryz.prog W = .ok (.slice (if cw = 1 then some ad2 else (some ad2 : Option Addr).map (·.add (1 * 1))) (mw - 1) (cw - 1)) W := fun W =>
        cut_from (P := Tryz.prog) 51 9 .i64 Tryz.underlying51 hi9 1 hz9 (some ad2) mw cw 1 (by decide) (by omega) W
      have HCD : Hid (Kd.C Kd.string w2 (if cw = 1 then some ad2 else (some ad2 : Option Addr).map (·.add (1 * 1))) wt.length wt) := Lib.hid (Kd.C_drop (xs := v1 :: wt) (m := 1) (by rw [HMW.out]; exact HCW.out) (by simp) (by rw [HMW.out]; exact HCC.out))
      obtain ⟨A2, hA2⟩ : ∃ A2, A2 = (if cw = 1 then some ad2 else (some ad2 : Option Addr).map (·.add (1 * 1))) := ⟨_, rfl⟩
      rw [← hA2] at hs2 HCD
      clear hA2 HCW
      have HLW := Lib.hid (show wt.length ≤ cw - 1 by have := HCC.out; have := HMW.out; simp only [List.length_cons] at this; omega)
      have hlw : wt.length = mw - 1 := (by have := HMW.out; simp only [List.length_cons] at this; omega)
      rw [hlw] at HLW HCD
      clear HCC
      go_wp2_with (go_at_call 26; refine (needs_yes _).mono ?_; rintro e w3 ⟨rfl, rfl⟩)
      go_ret
      exact ⟨HKB.out, HRI.out, A2, cw - 1, rfl, HCD.out, HLW.out⟩
    · have m2 : (v1.toList == first.toList) = false := beq_eq_false_iff_ne.2 (fun e => k2 (toList_inj.1 e))
      have hd : ¬ (decide (mw = count) && decide (v1 = first)) = true := by rw [decide_eq_false k2]; simp
      simp only [if_neg hd]
      clear hd k1 k2
      go_enter Tryz.func47, Tryz.ntmps47
      go_upto_region 4 with (first | (go_at_call 26; refine (needs_yes _).mono ?_; rintro e w3 ⟨rfl, rfl⟩) | (go_at_call 25; refine (HS.out _ HI.out.glob).mono ?_; rintro e w1 ⟨v, rfl, hR, hb⟩; obtain ⟨hCw, a, cw, hv, hcw, hkb, hRI⟩ := HW.out w1 v hb hR; subst hv; have HKB := Lib.hid hkb; clear hkb; have HCW := Lib.hid hCw; have HCC := Lib.hid hcw; have HRI := Lib.hid hRI; have g1 := HF1.out w1 hb; have g2 := HF2.out w1 hb; clear hCw hcw hRI hR hb q0 p0 p1 HS HW HF1 HF2 hw0))
      generalize w1.setCell ⟨w0.heap.size, 0, none⟩ (.slice A1 t.length (c - 1)) = w2 at HCW HRI HKB ⊢
      clear g1 g2 hs1
      obtain ⟨ad2, hAd2, r0, r1⟩ := str_first (s := v1) (t := wt) (by rw [HMW.out]; exact HCW.out)
      subst hAd2
      have hs2 : ∀ W : World, (Instr.slice 51 (.slice (some ad2) mw cw) (some (.int .i64 1)) none none).run Tryz.prog W = .ok (.slice (if cw = 1 then some ad2 else (some ad2 : Option Addr).map (·.add (1 * 1))) (mw - 1) (cw - 1)) W := fun W =>
        cut_from (P := Tryz.prog) 51 9 .i64 Tryz.underlying51 hi9 1 hz9 (some ad2) mw cw 1 (by decide) (by omega) W
      have HCD : Hid (Kd.C Kd.string w2 (if cw = 1 then some ad2 else (some ad2 : Option Addr).map (·.add (1 * 1))) wt.length wt) := Lib.hid (Kd.C_drop (xs := v1 :: wt) (m := 1) (by rw [HMW.out]; exact HCW.out) (by simp) (by rw [HMW.out]; exact HCC.out))
      obtain ⟨A2, hA2⟩ : ∃ A2, A2 = (if cw = 1 then some ad2 else (some ad2 : Option Addr).map (·.add (1 * 1))) := ⟨_, rfl⟩
      rw [← hA2] at hs2 HCD
      clear hA2 HCW
      have HLW := Lib.hid (show wt.length ≤ cw - 1 by have := HCC.out; have := HMW.out; simp only [List.length_cons] at this; omega)
      have hlw : wt.length = mw - 1 := (by have := HMW.out; simp only [List.length_cons] at this; omega)
      rw [hlw] at HLW HCD
      clear HCC
      go_wp2_with (go_at_call 26; refine (needs_no _).mono ?_; rintro e w3 ⟨rfl, rfl⟩)
      exact ⟨rfl, HKB.out, HRI.out, rfl⟩
  · have m1 : ((mw : Int) == (count : Int)) = false := beq_eq_false_iff_ne.2 (by omega)
    have hd : ¬ (decide (mw = count) && decide (v1 = first)) = true := by rw [decide_eq_false k1]; simp
    simp only [if_neg hd]
    clear hd k1
    go_enter Tryz.func47, Tryz.ntmps47
    go_upto_region 4 with (first | (go_at_call 26; refine (needs_yes _).mono ?_; rintro e w3 ⟨rfl, rfl⟩) | (go_at_call 25; refine (HS.out _ HI.out.glob).mono ?_; rintro e w1 ⟨v, rfl, hR, hb⟩; obtain ⟨hCw, a, cw, hv, hcw, hkb, hRI⟩ := HW.out w1 v hb hR; subst hv; have HKB := Lib.hid hkb; clear hkb; have HCW := Lib.hid hCw; have HCC := Lib.hid hcw; have HRI := Lib.hid hRI; have g1 := HF1.out w1 hb; have g2 := HF2.out w1 hb; clear hCw hcw hRI hR hb q0 p0 p1 HS HW HF1 HF2 hw0))
    generalize w1.setCell ⟨w0.heap.size, 0, none⟩ (.slice A1 t.length (c - 1)) = w2 at HCW HRI HKB ⊢
    clear g1 g2 hs1
    obtain ⟨ad2, hAd2, r0, r1⟩ := str_first (s := v1) (t := wt) (by rw [HMW.out]; exact HCW.out)
    subst hAd2
    have hs2 : ∀ W : World, (Instr.slice 51 (.slice (some ad2) mw cw) (some (.int .i64 1)) none none).run Tryz.prog W = .ok (.slice (if cw = 1 then some ad2 else (some ad2 : Option Addr).map (·.add (1 * 1))) (mw - 1) (cw - 1)) W := fun W =>
      cut_from (P := Tryz.prog) 51 9 .i64 Tryz.underlying51 hi9 1 hz9 (some ad2) mw cw 1 (by decide) (by omega) W
    have HCD : Hid (Kd.C Kd.string w2 (if cw = 1 then some ad2 else (some ad2 : Option Addr).map (·.add (1 * 1))) wt.length wt) := Lib.hid (Kd.C_drop (xs := v1 :: wt) (m := 1) (by rw [HMW.out]; exact HCW.out) (by simp) (by rw [HMW.out]; exact HCC.out))
    obtain ⟨A2, hA2⟩ : ∃ A2, A2 = (if cw = 1 then some ad2 else (some ad2 : Option Addr).map (·.add (1 * 1))) := ⟨_, rfl⟩
    rw [← hA2] at hs2 HCD
    clear hA2 HCW
    have HLW := Lib.hid (show wt.length ≤ cw - 1 by have := HCC.out; have := HMW.out; simp only [List.length_cons] at this; omega)
    have hlw : wt.length = mw - 1 := (by have := HMW.out; simp only [List.length_cons] at this; omega)
    rw [hlw] at HLW HCD
    clear HCC
    go_wp2_with (go_at_call 26; refine (needs_no _).mono ?_; rintro e w3 ⟨rfl, rfl⟩)
    exact ⟨rfl, HKB.out, HRI.out, rfl⟩
end Go.Proofs.YtnngbnhbmgdkoaaGreatDoor.E
