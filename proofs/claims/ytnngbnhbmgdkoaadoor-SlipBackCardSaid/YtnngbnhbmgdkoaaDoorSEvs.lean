/- What slip.Text and slip.Parse answer, in plain words. -/
import Derived.Test.YtnngbnhbmgdkoaaDoorSRound
import Derived.Test.YtnngbnhbmgdkoaaDoorSPlain
namespace Go.Proofs.YtnngbnhbmgdkoaaDoor.E
open Go.RowKit Go.Proofs.YtnngbnhbmgdkoaaDoor.P Go.Proofs.YtnngbnhbmgdkoaaDoorW.PrintWords Go.Proofs.YtnngbnhbmgdkoaaDoorW.PrintLast
theorem ev_one {α : Type} {g : Nat → Option α} {r s : α} (h1 : Ev g r) (h2 : Ev g s) : r = s := by
  obtain ⟨k1, e1⟩ := h1
  obtain ⟨k2, e2⟩ := h2
  exact Option.some.inj ((e1 (k1 + k2) (by omega)).symm.trans (e2 (k1 + k2) (by omega)))
theorem part_get {p : UInt8 → Bool} {m : Int} {s : ByteArray} (h : isPart p m s = true) : s.data.toList.all p = true ∧ (s.size : Int) ≤ m := by
  unfold isPart at h
  rw [Bool.and_eq_true, Bool.and_eq_true, decide_eq_true_eq, decide_eq_true_eq] at h
  exact ⟨h.1, h.2.2⟩
theorem sign_not : ∀ c : UInt8, isSign c = true → c ≠ 32 ∧ c ≠ 10 := fun c => all_u8 (p := fun c => isSign c = true → c ≠ 32 ∧ c ≠ 10) (by decide +kernel) c
theorem up_sign : ∀ c : UInt8, isUp c = true → isSign c = true := fun c => all_u8 (p := fun c => isUp c = true → isSign c = true) (by decide +kernel) c
theorem lowdig_sign : ∀ c : UInt8, (isLow c || isDig c) = true → isSign c = true := fun c => all_u8 (p := fun c => (isLow c || isDig c) = true → isSign c = true) (by decide +kernel) c
theorem low_sign : ∀ c : UInt8, isLow c = true → isSign c = true := fun c => all_u8 (p := fun c => isLow c = true → isSign c = true) (by decide +kernel) c
theorem noC_sign {s : ByteArray} (h : s.data.toList.all isSign = true) : noC 32 s ∧ noC 10 s :=
  ⟨fun b hb => (sign_not b (List.all_eq_true.1 h b hb)).1, fun b hb => (sign_not b (List.all_eq_true.1 h b hb)).2⟩
theorem who_get {s : ByteArray} (h : isWho s = true) : s.data.toList.all isSign = true ∧ s.size ≤ 8 := by
  unfold isWho at h
  cases hs : s.data.toList with
  | nil => rw [hs] at h; cases h
  | cons c t =>
    rw [hs] at h
    simp only [Bool.and_eq_true, decide_eq_true_eq] at h
    have hl := size_len s
    rw [hs] at hl
    have h1 := h.1.1
    have h2 := h.1.2
    have h3 := h.2
    refine ⟨?_, by simp only [List.length_cons] at hl; omega⟩
    rw [List.all_cons, low_sign c h1, List.all_eq_true.2 (fun b hb => lowdig_sign b (List.all_eq_true.1 h2 b hb))]
    rfl
theorem up_get {s : ByteArray} (h : isPart isUp 6 s = true) : s.data.toList.all isSign = true ∧ s.size ≤ 6 := by
  obtain ⟨h1, h2⟩ := part_get h
  exact ⟨List.all_eq_true.2 (fun b hb => up_sign b (List.all_eq_true.1 h1 b hb)), by omega⟩
def rowsIn64 (ls : List Row_) : Prop := ∀ x ∈ ls, (0 ≤ x.f0 ∧ x.f0 < 18446744073709551616) ∧ in64 x.f2
theorem slip_ok {who asset : ByteArray} {day op : Int} {ls : List Row_} {cl : Int} (h : slipB who asset op ls cl = true) (hd : 0 ≤ day ∧ day < 18446744073709551616) (ho : in64 op) (hc : in64 cl) (hr : rowsIn64 ls) : SOk who asset day op ls cl where
  who := noC_sign (who_get (slip_get h).1).1
  asset := noC_sign (up_get (slip_get h).2.1).1
  day := hd
  op := ho
  ls := fun x hx => ⟨noC_sign (part_get ((slip_get h).2.2.2.2 x hx).1).1, hr x hx⟩
  cl := hc
theorem slip_in {who asset : ByteArray} {day op : Int} {ls : List Row_} {cl : Int} (h : slipB who asset op ls cl = true) (hd : 0 ≤ day ∧ day < 18446744073709551616) (ho : in64 op) (hc : in64 cl) (hr : rowsIn64 ls) : TextIn who asset day op ls cl := by
  obtain ⟨h1, h2, h3, _, h5⟩ := slip_get h
  refine ⟨by have := (who_get h1).2; omega, by have := (up_get h2).2; omega, hd.1, hd.2, ho, hc, h3, fun x hx => ⟨(hr x hx).1.1, (hr x hx).1.2, ?_, (hr x hx).2⟩⟩
  have := (part_get (h5 x hx).1).2
  omega
theorem text_ev (who asset : ByteArray) (day op : Int) (ls : List Row_) (cl : Int) (hw : who.size ≤ 140737488351232) (ha : asset.size ≤ 140737488351232) (hd : 0 ≤ day ∧ day < 18446744073709551616) (ho : in64 op) (hc : in64 cl) (hr : rowsIn64 ls) (hs : ∀ x ∈ ls, x.f1.size ≤ 140737488351232) (hl : ls.length ≤ 1000000) :
    Ev (fun k => slip_Text.f k who asset day op ls cl) (if slipB who asset op ls cl = true then (sText who asset day op ls cl, 0) else (⟨#[]⟩, 190)) := by
  unfold slip_Text.f
  refine ev_call (chk_ev who asset day op ls cl hw ha ho hc (fun x hx => (hr x hx).2) hs hl) ?_
  cases hb : slipB who asset op ls cl with
  | true =>
    exact ev_pos rfl (ev_pos (slip_in hb hd ho hc hr) (ev_some rfl))
  | false => exact ev_neg (by decide) (ev_some rfl)
/-- A read statement, that may be, is one that fits. -/
structure Read6 (text : ByteArray) (r : Slip6) : Prop where
  text : text = sText r.1 r.2.1 r.2.2.1 r.2.2.2.1 r.2.2.2.2.1 r.2.2.2.2.2
  day : 0 ≤ r.2.2.1 ∧ r.2.2.1 < 18446744073709551616
  op : in64 r.2.2.2.1
  cl : in64 r.2.2.2.2.2
  rows : rowsIn64 r.2.2.2.2.1
theorem slipR_some {L : List ByteArray} (hL : L.length ≤ 1000000) (hs : ∀ s ∈ L, s.size ≤ 1000000) : ∃ R, Ev (fun k => slipR k L) R := by
  have now : ∀ {g : Nat → Option (Option Slip6)}, (∀ k, g k = some none) → ∃ R, Ev g R := fun h => ⟨none, 0, fun k _ => h k⟩
  cases h1 : takeW ⟨#[83, 84, 65, 84, 69, 77, 69, 78, 84]⟩ 4 L with
  | none => exact now (fun k => by simp only [slipR, h1])
  | some x =>
    cases h2 : uintP (x.1.getD 2 ⟨#[]⟩) with
    | none => exact now (fun k => by simp only [slipR, h1, h2])
    | some day =>
      cases h3 : takeW ⟨#[79, 80, 69, 78]⟩ 2 x.2 with
      | none => exact now (fun k => by simp only [slipR, h1, h2, h3])
      | some y =>
        cases h4 : amtP (y.1.getD 0 ⟨#[]⟩) with
        | none => exact now (fun k => by simp only [slipR, h1, h2, h3, h4])
        | some op =>
          cases h5 : postsP y.2 with
          | none => exact now (fun k => by simp only [slipR, h1, h2, h3, h4, h5])
          | some z =>
            cases h6 : takeW ⟨#[67, 76, 79, 83, 69]⟩ 2 z.2 with
            | none => exact now (fun k => by simp only [slipR, h1, h2, h3, h4, h5, h6])
            | some v =>
              cases h7 : amtP (v.1.getD 0 ⟨#[]⟩) with
              | none => exact now (fun k => by simp only [slipR, h1, h2, h3, h4, h5, h6, h7])
              | some cl =>
                by_cases h8 : v.2 = []
                · have e : ∀ k, slipR k L = (slip_Check.f k (x.1.getD 0 ⟨#[]⟩) (x.1.getD 1 ⟨#[]⟩) (day : Int) op z.1 cl).map fun c => if c = 0 then some (x.1.getD 0 ⟨#[]⟩, x.1.getD 1 ⟨#[]⟩, (day : Int), op, z.1, cl) else none := fun k => by
                    simp only [slipR, h1, h2, h3, h4, h5, h6, h7]
                    rw [if_pos h8]
                  obtain ⟨X1, X2⟩ := x
                  obtain ⟨Y1, Y2⟩ := y
                  obtain ⟨Z1, Z2⟩ := z
                  obtain ⟨x1, x2⟩ := take_is h1
                  obtain ⟨y1, y2⟩ := take_is h3
                  obtain ⟨z1, z2⟩ := posts_is h5
                  obtain ⟨a, b, d, rfl⟩ := threeS (by omega : X1.length = 3)
                  simp only [List.getD_cons_succ, List.getD_cons_zero] at e
                  simp only at y1 z1
                  have hX2 : X2.length ≤ L.length := by rw [x1]; simp
                  have hY2 : Y2.length ≤ X2.length := by rw [y1]; simp
                  have hZ1 : Z1.length ≤ Y2.length := by rw [z1]; simp
                  have hm1 : jn [⟨#[83, 84, 65, 84, 69, 77, 69, 78, 84]⟩, a, b, d] ∈ L := by rw [x1]; exact List.mem_cons_self ..
                  have jsz := hs _ hm1
                  have hj4 : (jn [⟨#[83, 84, 65, 84, 69, 77, 69, 78, 84]⟩, a, b, d]).size = (⟨#[83, 84, 65, 84, 69, 77, 69, 78, 84]⟩ : ByteArray).size + a.size + b.size + d.size + 3 := join4_size ..
                  have hrow : ∀ q ∈ Z1, q.f1.size ≤ 140737488351232 := fun q hq => by
                    have hmem : postL q ∈ L := by
                      rw [x1, y1, z1]
                      exact List.mem_cons_of_mem _ (List.mem_cons_of_mem _ (List.mem_append_left _ (List.mem_map.2 ⟨q, hq, rfl⟩)))
                    have h1 := hs _ hmem
                    have h2 : (postL q).size = kPo.size + (decOf q.f0).size + q.f1.size + (amtOf q.f2).size + 3 := join4_size ..
                    omega
                  have hC := chk_ev a b (day : Int) op Z1 cl (by omega) (by omega) (amtP_is h4).2 (amtP_is h7).2 (fun q hq => (z2 q hq).2) hrow (by omega)
                  refine ⟨if slipC (slipB a b op Z1 cl) = 0 then some (a, b, (day : Int), op, Z1, cl) else none, ?_⟩
                  obtain ⟨K, hK⟩ := hC
                  exact ⟨K, fun k hk => by
                    have h9 : slip_Check.f k a b (day : Int) op Z1 cl = some (slipC (slipB a b op Z1 cl)) := hK k hk
                    show slipR k L = _
                    rw [e k, h9]
                    rfl⟩
                · exact now (fun k => by simp only [slipR, h1, h2, h3, h4, h5, h6, h7]; rw [if_neg h8])
theorem parse_ev (text : ByteArray) (ht : text.size ≤ 900000) : ∃ R, Ev (fun k => parseR k text) R ∧ ∀ r, R = some r → Read6 text r ∧ ∃ k, slip_Check.f k r.1 r.2.1 r.2.2.1 r.2.2.2.1 r.2.2.2.2.1 r.2.2.2.2.2 = some 0 := by
  have hlen : (splitOn text 10).length ≤ 900002 := by
    rw [length_splitOn]
    have h1 := Lib.count_le text.data.toList [10]
    have h2 := size_len text
    show Lib.count text.data.toList [10] + 1 ≤ _
    omega
  have hsz : ∀ x ∈ splitOn text 10, x.size ≤ 1000000 := fun x hx => Nat.le_trans (splitS_sizes hx) (Nat.le_trans ht (by decide))
  have key : ∃ R, Ev (fun k => parseR k text) R := by
    unfold parseR
    by_cases h : (splitOn text 10).getD ((splitOn text 10).length - 1) ⟨#[]⟩ = ⟨#[]⟩
    · obtain ⟨R, hR⟩ := slipR_some (L := (splitOn text 10).take ((splitOn text 10).length - 1)) (by rw [List.length_take]; omega) (fun s hs => hsz s (List.mem_of_mem_take hs))
      exact ⟨R, ev_pos h hR⟩
    · exact ⟨none, ev_neg h (ev_some rfl)⟩
  obtain ⟨R, hR⟩ := key
  refine ⟨R, hR, fun r hr => ?_⟩
  subst hr
  obtain ⟨k, hk⟩ := Ev.rounds hR
  obtain ⟨h1, h2, h3, h4, h5, h6⟩ := parse_is hk
  exact ⟨⟨text_ext h1, h3, h4, h5, h6⟩, k, h2⟩
theorem flat_mem : ∀ {L : List ByteArray} {s : ByteArray}, s ∈ L → s.size + 1 ≤ (flat L).length
  | x :: L, s, h => by
    have hx := size_len x
    rw [flat_cons, List.length_append, List.length_cons]
    rcases List.mem_cons.1 h with rfl | h
    · omega
    · have := flat_mem h
      omega
theorem flat_len : ∀ L : List ByteArray, L.length ≤ (flat L).length
  | [] => Nat.zero_le _
  | x :: L => by
    have := flat_len L
    rw [flat_cons, List.length_append, List.length_cons, List.length_cons]
    omega
/-- What is read fits, and may be. -/
theorem read_ok {text who asset : ByteArray} {day op : Int} {ls : List Row_} {cl : Int} (h : Read6 text (who, asset, day, op, ls, cl)) (ht : text.size ≤ 900000) {k : Nat} (hk : slip_Check.f k who asset day op ls cl = some 0) :
    slipB who asset op ls cl = true ∧ Ev (fun k => slip_Text.f k who asset day op ls cl) (text, 0) := by
  obtain ⟨h1, h2, h3, h4, h5⟩ := h
  simp only at h1 h2 h3 h4 h5
  have hl : (flat (textL who asset day op ls cl)).length = text.size := by
    rw [← text_flat, ← size_len text, h1]
    rfl
  have m1 : jn [kSt, who, asset, decOf day] ∈ textL who asset day op ls cl := by unfold textL; exact List.mem_cons_self ..
  have j1 : (jn [kSt, who, asset, decOf day]).size = kSt.size + who.size + asset.size + (decOf day).size + 3 := join4_size ..
  have l1 := flat_mem m1
  have l2 := flat_len (textL who asset day op ls cl)
  have l3 : ls.length ≤ (textL who asset day op ls cl).length := by unfold textL; simp; omega
  have hrow : ∀ q ∈ ls, q.f1.size ≤ 140737488351232 := fun q hq => by
    have hm : postL q ∈ textL who asset day op ls cl := by
      unfold textL
      exact List.mem_cons_of_mem _ (List.mem_cons_of_mem _ (List.mem_append_left _ (List.mem_map.2 ⟨q, hq, rfl⟩)))
    have h1 := flat_mem hm
    have h2 : (postL q).size = kPo.size + (decOf q.f0).size + q.f1.size + (amtOf q.f2).size + 3 := join4_size ..
    omega
  have hC := chk_ev who asset day op ls cl (by omega) (by omega) h3 h4 (fun q hq => (h5 q hq).2) hrow (by omega)
  have hb : slipB who asset op ls cl = true := by
    have := ev_one hC (Ev.of (slip_Check.mono who asset day op ls cl) hk)
    cases hb : slipB who asset op ls cl with
    | true => rfl
    | false => rw [hb] at this; cases this
  refine ⟨hb, ?_⟩
  have hT := text_ev who asset day op ls cl (by omega) (by omega) h2 h3 h4 h5 hrow (by omega)
  rw [if_pos hb, ← h1] at hT
  exact hT
theorem text_length {who asset : ByteArray} {day op : Int} {ls : List Row_} {cl : Int} (h : TextIn who asset day op ls cl) : (textOf who asset day op ls cl).length ≤ 10000 + 3000 * ls.length := by
  obtain ⟨h1, h2, h3, h4, h5, h6, h7, h8⟩ := h
  have a1 := head_length h1 h2 h3 h4 h5
  have a2 := posts_length ls h8
  have a3 := amtOf_size h6
  unfold textOf
  rw [List.length_append, List.length_append, lineOf_length, join2_size]
  have : (⟨#[67, 76, 79, 83, 69]⟩ : ByteArray).size = 5 := rfl
  omega
end Go.Proofs.YtnngbnhbmgdkoaaDoor.E
