/- The pure statement of LabelBack: a key is split into what it was made of. -/
import Derived.Test.YtalepbkdakjhdaaDoorPureLabelKeys
import Derived.Test.YtalepbkdakjhdaaDoorPx5
namespace Go.Proofs.YtalepbkdakjhdaaDoor.Pure
open Go.RowKit Go.Proofs.YtalepbkdakjhdaaDoor.E Go.Proofs.YtalepbkdakjhdaaDoor.P Go.Proofs.YtalepbkdakjhdaaDoorW.PrintWords Go.Proofs.YtalepbkdakjhdaaDoorW.PrintLast
/-- A key's text is split into its parts. -/
theorem splitOf_key {a : Int} {l : List ByteArray} (h : okKey a l = true) : splitOf (keyData (spaceByte a) l) = (a, l, 0) := by
  obtain ⟨h1, h2, h3, _, h5⟩ := okKey_parts h
  obtain ⟨r, e1, e2⟩ := partsOf_barred l (by intro e; rw [e] at h3; simp at h3) h5
  have ha : ((spaceByte a).toNat : Int) = a := by
    unfold spaceByte
    rw [UInt8.toNat_ofNat']
    omega
  unfold keyData
  rw [e1, splitOf_yes _ r (by rw [ha, e2]; exact h), ha, e2]
theorem keyData_length {a : Int} {l : List ByteArray} (h : okKey a l = true) : (keyData (spaceByte a) l).length ≤ 69 := by
  obtain ⟨_, _, _, h4, h5⟩ := okKey_parts h
  have := barred_length h5
  unfold keyData
  rw [List.length_cons]
  omega
theorem back_split (s : ByteArray) (hs : s.size ≤ 100) : Ev (fun k => cambistlaw02_LabelBack.j1 k s true) true := by
  have hl : s.data.toList.length ≤ 100 := by rw [size_len]; exact hs
  have hsp := split_some s (by omega)
  have bad : splitOf s.data.toList = (0, [], 20) → Ev (fun k => cambistlaw02_LabelBack.j1 k s true) true := by
    intro e
    rw [e] at hsp
    refine ev_succ ?_
    simp only [cambistlaw02_LabelBack.j1]
    exact ev_call hsp (ev_neg (by decide) (ev_pos trivial (ev_pos rfl (ev_pos rfl (ev_some rfl)))))
  match h : s.data.toList with
  | [] => exact bad (by rw [h]; rfl)
  | [c] => exact bad (by rw [h]; rfl)
  | c :: b :: r =>
    have hl' := hl
    rw [h] at hl'
    simp only [List.length_cons] at hl'
    by_cases hb : b = 124
    · subst hb
      cases hk : okKey (c.toNat : Int) (partsOf r) with
      | true =>
        rw [h, splitOf_yes c r hk] at hsp
        refine ev_succ ?_
        simp only [cambistlaw02_LabelBack.j1]
        refine ev_call hsp (ev_pos rfl (ev_call (key_some _ _ (parts_small r (by omega))) ?_))
        rw [keyOf_yes hk]
        refine ev_pos trivial (ev_pos ?_ (ev_some rfl))
        rw [toList_data, toList_data, h]
        show keyData _ _ = _
        rw [spaceByte_toNat]
        unfold keyData
        rw [barred_partsOf]
      | false => exact bad (by rw [h]; exact splitOf_no c r hk)
    · exact bad (by rw [h]; exact splitOf_else c b r hb)
theorem LabelBack (a0 : Int) (_g0 : (Lit.int .u8 a0).wf = true) (l1 : List ByteArray) (g1 : (∀ p ∈ l1, p.size ≤ lim) ∧ l1.length * Tryd.prog.bytesOf 9 ≤ lim) (s : ByteArray) (_g2 : s.size ≤ lim) : ∃ k, cambistlaw02_LabelBack.f k a0 l1 s = some true := by
  refine Ev.rounds (g := fun k => cambistlaw02_LabelBack.f k a0 l1 s) ?_
  simp only [cambistlaw02_LabelBack.f]
  refine ev_call awake_ev ?_
  have out : Ev (fun k => cambistlaw02_LabelBack.j0 k a0 l1 s true true) true := by
    refine ev_succ ?_
    simp only [cambistlaw02_LabelBack.j0]
    exact ev_pos trivial (ev_some rfl)
  by_cases h10 : (l1.length : Int) > 10
  · exact ev_pos h10 out
  · refine ev_neg h10 ?_
    by_cases h100 : (s.size : Int) > 100
    · rw [decide_eq_true h100]; exact out
    · rw [decide_eq_false h100]
      refine ev_succ ?_
      simp only [cambistlaw02_LabelBack.j0]
      refine ev_neg (by decide) (ev_call (key_some a0 l1 g1.1) ?_)
      cases hk : okKey a0 l1 with
      | true =>
        rw [keyOf_yes hk]
        have hsz : (⟨(keyData (spaceByte a0) l1).toArray⟩ : ByteArray).size ≤ 4294967280 := by
          have := keyData_length hk
          rw [← size_len]
          show (keyData (spaceByte a0) l1).length ≤ _
          omega
        refine ev_pos rfl (ev_call (split_some _ hsz) ?_)
        have e : splitOf (⟨(keyData (spaceByte a0) l1).toArray⟩ : ByteArray).data.toList = (a0, l1, 0) := splitOf_key hk
        rw [e]
        exact ev_call (ref_same l1 l1 (by omega)) (ev_pos rfl (ev_pos (decide_eq_true rfl) (ev_pos rfl (back_split s (by omega)))))
      | false =>
        rw [keyOf_no hk]
        exact ev_neg (by decide) (back_split s (by omega))
end Go.Proofs.YtalepbkdakjhdaaDoor.Pure
