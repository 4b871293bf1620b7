/- The law SlipBack of the given program: a statement is read as it was, what is read is its text again, and its text is none when it is cut. -/
import Derived.Test.YtnngbnhbmgdkoaaDoorSEvs
import Derived.Test.YtnngbnhbmgdkoaaDoorSSmall
import Derived.Test.YtnngbnhbmgdkoaaDoorSSame
import Derived.Test.YtnngbnhbmgdkoaaDoorAwake19
import Derived.Test.YtnngbnhbmgdkoaaDoorOpenS
import Derived.WalkKit
import Derived.Lib.Hide
namespace Go.Proofs.YtnngbnhbmgdkoaaDoor.E
open Go.RowKit Go.Proofs.YtnngbnhbmgdkoaaDoor.P Go.Proofs.YtnngbnhbmgdkoaaDoorW.PrintWords Go.Proofs.YtnngbnhbmgdkoaaDoorW.PrintLast
theorem back_u64 {a : Int} (h : (Lit.int .u64 a).wf = true) : 0 ≤ a ∧ a < 18446744073709551616 := by
  simp [Lit.wf, IntKind.min, IntKind.max, IntKind.signed, IntKind.bits] at h
  omega
theorem slip_at {w : World} {who asset : ByteArray} {day op : Int} {A : Option Addr} {n c : Nat} {cl : Int} {g : Nat} (h : w.heap[g]? = some (.cells #[.string who, .string asset, .int .u64 day, .int .i64 op, .slice A n c, .int .i64 cl] 28 (0, 0))) :
    w.cell? ⟨g, 0, none⟩ = some (.string who) ∧ w.cell? ⟨g, 1, none⟩ = some (.string asset) ∧ w.cell? ⟨g, 2, none⟩ = some (.int .u64 day) ∧ w.cell? ⟨g, 3, none⟩ = some (.int .i64 op) ∧ w.cell? ⟨g, 4, none⟩ = some (.slice A n c) ∧ w.cell? ⟨g, 5, none⟩ = some (.int .i64 cl) :=
  ⟨(blk_cell h 0).trans rfl, (blk_cell h 1).trans rfl, (blk_cell h 2).trans rfl, (blk_cell h 3).trans rfl, (blk_cell h 4).trans rfl, (blk_cell h 5).trans rfl⟩
/-- How slip.Parse of a text ends. -/
def ParseTo (text : ByteArray) (R : Option Slip6) : Prop := ∃ k, slip_Parse.f k text = some (outR R)
theorem parse_to {text : ByteArray} {R : Option Slip6} (ht : text.size ≤ 900000) (h : Ev (fun k => parseR k text) R) : ParseTo text R := by
  obtain ⟨k, hk⟩ := Ev.rounds h
  refine ⟨k, ?_⟩
  unfold slip_Parse.f
  rw [if_pos ht, hk]
  rfl
theorem parse_none {text : ByteArray} (h : ParseTo text none) (w : World) (hG : Glob w) : Calls Tryd.prog 15 #[.string text] w fun e w' => (∃ A c, e = .returned (.tuple #[.agg #[.string ⟨#[]⟩, .string ⟨#[]⟩, .int .u64 0, .int .i64 0, .slice A 0 c, .int .i64 0], .int .i64 190])) ∧ Below w.heap.size w w' := by
  obtain ⟨k, hk⟩ := h
  refine (slip_Parse.calls k text _ _ 0 0 [] 0 190 w hG hk).mono ?_
  rintro e w' ⟨v, he, hR, hb⟩
  obtain ⟨A, c, hv⟩ := Kd.R_slice hR
  subst hv
  exact ⟨⟨A, c, he⟩, hb⟩
theorem parse_some {text who asset : ByteArray} {day op : Int} {ls : List Row_} {cl : Int} (h : ParseTo text (some (who, asset, day, op, ls, cl))) (w : World) (hG : Glob w) : Calls Tryd.prog 15 #[.string text] w fun e w' => (∃ A c, e = .returned (.tuple #[.agg #[.string who, .string asset, .int .u64 day, .int .i64 op, .slice A ls.length c, .int .i64 cl], .int .i64 0]) ∧ Kd.C k49 w' A ls.length ls ∧ ls.length ≤ c) ∧ Below w.heap.size w w' := by
  obtain ⟨k, hk⟩ := h
  refine (slip_Parse.calls k text _ _ day op ls cl 0 w hG hk).mono ?_
  rintro e w' ⟨v, he, hR, hb⟩
  obtain ⟨A, c, hv⟩ := Kd.R_slice hR
  subst hv
  exact ⟨⟨A, c, he, (Kd.R_reads' hR).2.2, (Kd.R_reads' hR).2.1⟩, hb⟩
theorem text_length_pos (who asset : ByteArray) (day op : Int) (ls : List Row_) (cl : Int) : 0 < (textOf who asset day op ls cl).length := by
  rw [text_flat]
  unfold textL
  rw [flat_cons, List.length_append, List.length_cons]
  omega
set_option maxHeartbeats 8000000 in
set_option maxRecDepth 100000 in
set_option linter.unusedSimpArgs false in
set_option linter.unusedVariables false in
theorem slipBack_true (w : World) (hG : Glob w) (who asset : ByteArray) (day op : Int) (A : Option Addr) (c : Nat) (ls : List Row_) (cl : Int) (g : Kd.C k49 w A ls.length ls ∧ ls.length ≤ c ∧ goodSlip who asset day op ls cl) (text : ByteArray) (ht : text.size ≤ lim) (cut : Int) (hcut : (Lit.int .i64 cut).wf = true) :
    Calls Tryd.prog 5 #[.agg #[.string who, .string asset, .int .u64 day, .int .i64 op, .slice A ls.length c, .int .i64 cl], .string text, .int .i64 cut] w fun e w' => e = .returned (.bool true) ∧ Below w.heap.size w w' := by
  obtain ⟨hC, hc, hgd⟩ := g
  obtain ⟨g1, g2, g3, g4, ⟨g5, _⟩, g6⟩ := hgd
  have hd := back_u64 g3
  have ho := i64_range g4
  have hcl := i64_range g6
  have hct := i64_range hcut
  have hrows : rowsIn64 ls := fun x hx => ⟨back_u64 (g5 x hx).1, i64_range (g5 x hx).2.2⟩
  have HA : Hid (∀ W, Glob W → Calls Tryd.prog 8 #[] W fun e w' => e = .returned (.bool true) ∧ Below W.heap.size W w') := Lib.hid fun W hW => cambistlaw19_awake.calls true W hW rfl
  have HG := Lib.hid hG; have HC := Lib.hid hC; have HCL := Lib.hid hc
  have HSM : Hid (∀ W, Below w.heap.size w W → Calls Tryd.prog 13 #[.agg #[.string who, .string asset, .int .u64 day, .int .i64 op, .slice A ls.length c, .int .i64 cl]] W fun e w' => e = .returned (.bool (smallB who asset ls)) ∧ Below W.heap.size W w') := Lib.hid fun W hb => small_calls who asset day op A c ls cl W (Kd.C_below HC.out hb) HCL.out
  have HROWS := Lib.hid hrows; have HD := Lib.hid hd; have HO := Lib.hid ho; have HZ := Lib.hid hcl; have HCT := Lib.hid hct
  clear hG hC hc g1 g2 g3 g4 g5 g6 hd ho hcl hrows hcut hct
  go_enter Tryd.func5, Tryd.ntmps5
  go_upto_region 1 with (fail)
  have hB := heap_alloc_new w (.cells #[.string who, .string asset, .int .u64 day, .int .i64 op, .slice A ls.length c, .int .i64 cl] 28)
  have hb : Below w.heap.size w (w.alloc (.cells #[.string who, .string asset, .int .u64 day, .int .i64 op, .slice A ls.length c, .int .i64 cl] 28)) := below_alloc (Below.refl _ _) _
  obtain ⟨gs, hgs⟩ : ∃ g, g = w.heap.size := ⟨_, rfl⟩
  obtain ⟨w1, hw1⟩ : ∃ W, W = w.alloc (.cells #[.string who, .string asset, .int .u64 day, .int .i64 op, .slice A ls.length c, .int .i64 cl] 28) := ⟨_, rfl⟩
  rw [← hw1] at hB hb ⊢
  rw [← hgs] at hB ⊢
  clear hw1 hgs
  have HB1 := Lib.hid hb; have HE1 := Lib.hid hB
  clear hb hB
  go_upto_region 2 with (go_at_call 8; refine (HA.out _ (HG.out.below HB1.out)).mono ?_; rintro e w2 ⟨rfl, hb⟩; have HB2 := Lib.hid (below_step HB1.out hb); have HE2 := Lib.hid (blk_below HE1.out hb); clear hb)
  clear HA HB1 HE1
  obtain ⟨n, hn⟩ : ∃ n, ls.length = n := ⟨_, rfl⟩
  have HN := Lib.hid hn
  rw [hn] at HE2 HSM HCL
  clear hn
  obtain ⟨cw0, cw1, cw2, cw3, cw4, cw5⟩ := slip_at HE2.out
  have HSM2 := Lib.hid (HSM.out w2 HB2.out)
  by_cases hsm : smallB who asset ls = true
  · rw [hsm] at HSM2
    by_cases htx : text.size ≤ 1000
    · have m1 : ¬ (1000 : Int) < (text.size : Int) := by omega
      have m2 : decide ((text.size : Int) > 1000) = false := decide_eq_false m1
      have HT0 := Lib.hid htx
      clear ht htx
      go_upto_region 4 with (go_at_call 13; refine (HSM2.out).mono ?_; rintro e w3 ⟨rfl, hb⟩; have HB3 := Lib.hid (below_step HB2.out hb); have HE3 := Lib.hid (blk_below HE2.out hb); clear hb)
      clear HSM HSM2 HB2 HE2 cw0 cw1 cw2 cw3 cw4 cw5 m1 m2
      have HSG := Lib.hid (small_get hsm)
      clear hsm
      have htv := text_ev who asset day op ls cl (by have := HSG.out.2.1; omega) (by have := HSG.out.2.2.1; omega) HD.out HO.out HZ.out HROWS.out (fun x hx => by have := HSG.out.2.2.2 x hx; omega) (by have := HSG.out.1; omega)
      obtain ⟨R, hR, hRr⟩ := parse_ev text (by have := HT0.out; omega)
      have HPT := Lib.hid (parse_to (by have := HT0.out; omega) hR)
      have HRR := Lib.hid hRr
      clear hR hRr
      cases hsb : slipB who asset op ls cl with
      | true =>
        rw [hsb, if_pos rfl] at htv
        have hok := slip_ok hsb HD.out HO.out HZ.out HROWS.out
        have hin := slip_in hsb HD.out HO.out HZ.out HROWS.out
        have hlen := text_length hin
        have hpos := text_length_pos who asset day op ls cl
        obtain ⟨kc, hkc⟩ := Ev.rounds (chk_ev who asset day op ls cl (by have := HSG.out.2.1; omega) (by have := HSG.out.2.2.1; omega) HO.out HZ.out (fun x hx => (HROWS.out x hx).2) (fun x hx => by have := HSG.out.2.2.2 x hx; omega) (by have := HSG.out.1; omega))
        rw [hsb] at hkc
        have hsz : (sText who asset day op ls cl).size = (textOf who asset day op ls cl).length := by rw [← size_len]; rfl
        have hl9 : (textOf who asset day op ls cl).length ≤ 900000 := by have := HSG.out.1; omega
        have hpb : ParseTo (sText who asset day op ls cl) (some (who, asset, day, op, ls, cl)) := ⟨kc, by
          unfold slip_Parse.f
          rw [if_pos (by omega), parse_back kc hok, hkc]
          rfl⟩
        have hpc : ∀ j : Nat, j < (textOf who asset day op ls cl).length → ParseTo ((sText who asset day op ls cl).extract 0 j) none := fun j hj => ⟨0, by
          have hx : ((sText who asset day op ls cl).extract 0 j).data.toList = (textOf who asset day op ls cl).take j := by
            rw [ByteArray.data_extract]
            simp [sText]
          unfold slip_Parse.f
          rw [if_pos (by rw [← size_len, hx, List.length_take]; omega), parse_cut 0 hok _ j hj hx]
          rfl⟩
        obtain ⟨T, hT⟩ : ∃ T, sText who asset day op ls cl = T := ⟨_, rfl⟩
        rw [hT] at htv hpb hpc hsz
        rw [← hsz] at hpc hl9 hpos
        have HTV := Lib.hid (Ev.rounds htv)
        have HPB := Lib.hid hpb; have HPC := Lib.hid hpc
        have hsv := same_ev who asset day op ls cl (by have := HSG.out.1; omega)
        have HSV := Lib.hid (Ev.rounds hsv)
        have HT9 := Lib.hid hl9; have HTP := Lib.hid hpos
        clear htv hsb hok hin hlen hkc hsz hl9 hpb hpc hT hsv hpos
        have HTW : Hid (Calls Tryd.prog 14 #[.agg #[.string who, .string asset, .int .u64 day, .int .i64 op, .slice A n c, .int .i64 cl]] w3 fun e w' => e = .returned (.tuple #[.string T, .int .i64 0]) ∧ Below w3.heap.size w3 w') := Lib.hid (by
          obtain ⟨k, hk⟩ := HTV.out
          have := slip_Text.calls k who asset day op A c ls cl T 0 w3 (HG.out.below HB3.out) (Kd.C_below HC.out HB3.out) (by rw [HN.out]; exact HCL.out) hk
          rw [HN.out] at this
          exact this)
        obtain ⟨cw0, cw1, cw2, cw3, cw4, cw5⟩ := slip_at HE3.out
        clear HTV
        go_upto_region 6 with (go_at_call 14; refine (HTW.out).mono ?_; rintro e w4 ⟨rfl, hb⟩; have HB4 := Lib.hid (below_step HB3.out hb); have HE4 := Lib.hid (blk_below HE3.out hb); clear hb)
        clear cw0 cw1 cw2 cw3 cw4 cw5 HTW HE3 HB3
        have HPA := Lib.hid (parse_some HPB.out w4 (HG.out.below HB4.out))
        go_upto_region 7 with (go_at_call 15; refine (HPA.out).mono ?_; rintro e w5 ⟨⟨Ap, cp, rfl, hCp, hcp⟩, hb⟩; have HCP := Lib.hid hCp; have HLP := Lib.hid hcp; have HB5 := Lib.hid (below_step HB4.out hb); have HE5 := Lib.hid (blk_below HE4.out hb); clear hb hCp hcp)
        have HF := Lib.hid (heap_alloc_new w5 (.cells #[.string who, .string asset, .int .u64 day, .int .i64 op, .slice Ap ls.length cp, .int .i64 cl] 28))
        have hb6 : Below w5.heap.size w5 (w5.alloc (.cells #[.string who, .string asset, .int .u64 day, .int .i64 op, .slice Ap ls.length cp, .int .i64 cl] 28)) := below_alloc (Below.refl _ _) _
        have HB6 := Lib.hid (below_step HB5.out hb6)
        have HE6 := Lib.hid (blk_below HE5.out hb6)
        have HC6 := Lib.hid (Kd.C_below HCP.out hb6)
        clear hb6
        generalize w5.alloc (.cells #[.string who, .string asset, .int .u64 day, .int .i64 op, .slice Ap ls.length cp, .int .i64 cl] 28) = w6 at HF HB6 HE6 HC6 ⊢
        obtain ⟨gp, hgp⟩ : ∃ g, g = w5.heap.size := ⟨_, rfl⟩
        rw [← hgp] at HF ⊢
        have HSA : Hid (Calls Tryd.prog 12 #[.agg #[.string who, .string asset, .int .u64 day, .int .i64 op, .slice Ap n cp, .int .i64 cl], .agg #[.string who, .string asset, .int .u64 day, .int .i64 op, .slice A n c, .int .i64 cl]] w6 fun e w' => e = .returned (.bool true) ∧ Below w6.heap.size w6 w') := Lib.hid (by
          obtain ⟨k, hk⟩ := HSV.out
          have := cambistref19_Same.calls k who asset day op Ap cp ls cl who asset day op A c ls cl true w6 (HG.out.below HB6.out) HC6.out HLP.out (Kd.C_below HC.out HB6.out) (by rw [HN.out]; exact HCL.out) hk
          rw [HN.out] at this
          exact this)
        rw [HN.out] at HF ⊢
        clear hgp HPA HCP HLP HE5 HB5 HC6 HSV HPB HE4 HB4
        obtain ⟨cw0, cw1, cw2, cw3, cw4, cw5⟩ := slip_at HE6.out
        obtain ⟨cp0, cp1, cp2, cp3, cp4, cp5⟩ := slip_at HF.out
        go_upto_region 8 with (go_at_call 12; refine (HSA.out).mono ?_; rintro e w7 ⟨rfl, hb⟩; have HB7 := Lib.hid (below_step HB6.out hb); clear hb)
        clear cw0 cw1 cw2 cw3 cw4 cw5 cp0 cp1 cp2 cp3 cp4 cp5 HSA HE6 HF HB6
        have t1 : ¬ ((T.size : Int) = 0) := by have := HTP.out; omega
        have t2 : ¬ (T.size = 0) := by have := HTP.out; omega
        have t3 : ((T.size : Int) == 0) = false := beq_eq_false_iff_ne.2 t1
        have t4 : (T.size == 0) = false := beq_eq_false_iff_ne.2 t2
        have HCTX := HCT.out
        have key : ∀ c2 : Int, 0 ≤ c2 → c2 ≤ 9223372036854775807 → ∃ j : Nat, Int.tmod c2 (T.size : Int) = (j : Int) ∧ j < T.size := fun c2 h0 h1 => by
          have hp := HTP.out
          refine ⟨(Int.tmod c2 (T.size : Int)).toNat, ?_, ?_⟩
          · have := Int.tmod_nonneg (T.size : Int) h0
            omega
          · have h2 := Int.tmod_lt_of_pos c2 (show (0 : Int) < (T.size : Int) by omega)
            have := Int.tmod_nonneg (T.size : Int) h0
            omega
        have HKEY := Lib.hid key
        clear key HCTX
        by_cases hneg : cut < 0
        · obtain ⟨j, hj, hjl⟩ := HKEY.out (-(cut + 1)) (by omega) (by have := HCT.out.1; omega)
          have m1 : decide (cut < 0) = true := decide_eq_true hneg
          have m2 : wrap64 (cut + 1) = cut + 1 := wrap_in (by have := HCT.out.1; omega) (by omega)
          have m3 : wrap64 (-(cut + 1)) = -(cut + 1) := wrap_in (by omega) (by have := HCT.out.1; omega)

          have HPX := Lib.hid (fun W (hW : Below w.heap.size w W) => parse_none (HPC.out j hjl) W (HG.out.below hW))
          go_upto_region 13 with (go_at_call 15; refine (HPX.out _ HB7.out).mono ?_; rintro e w8 ⟨⟨Ax, cx, rfl⟩, hb⟩; have HB8 := Lib.hid (below_step HB7.out hb); clear hb)
          have HBX := Lib.hid (below_alloc HB8.out (.cells #[.string ⟨#[]⟩, .string ⟨#[]⟩, .int .u64 0, .int .i64 0, .slice Ax 0 cx, .int .i64 0] 28))
          generalize w8.alloc (.cells #[.string ⟨#[]⟩, .string ⟨#[]⟩, .int .u64 0, .int .i64 0, .slice Ax 0 cx, .int .i64 0] 28) = w9 at HBX ⊢
          clear HPX HB8 HB7 HPC
          go_upto_region 15 with (fail)
          have HBT := HBX
          clear HBX t1 t2 t3 t4 HROWS HD HO HZ HSG HC HCL HN

          cases R with
          | none =>
            have HPN : Hid (∀ W, Below w.heap.size w W → Calls Tryd.prog 15 #[.string text] W fun e w' => (∃ A c, e = .returned (.tuple #[.agg #[.string ⟨#[]⟩, .string ⟨#[]⟩, .int .u64 0, .int .i64 0, .slice A 0 c, .int .i64 0], .int .i64 190])) ∧ Below W.heap.size W w') := Lib.hid fun W hW => parse_none HPT.out W (HG.out.below hW)
            clear HPT HRR
            go_upto_region 16 with (go_at_call 15; refine (HPN.out _ HBT.out).mono ?_; rintro e wp ⟨⟨Aq, cq, rfl⟩, hb⟩; have HBP := Lib.hid (below_step HBT.out hb); clear hb)
            have HF := Lib.hid (heap_alloc_new wp (.cells #[.string ⟨#[]⟩, .string ⟨#[]⟩, .int .u64 0, .int .i64 0, .slice Aq 0 cq, .int .i64 0] 28))
            have HBQ := Lib.hid (below_alloc HBP.out (.cells #[.string ⟨#[]⟩, .string ⟨#[]⟩, .int .u64 0, .int .i64 0, .slice Aq 0 cq, .int .i64 0] 28))
            generalize wp.alloc (.cells #[.string ⟨#[]⟩, .string ⟨#[]⟩, .int .u64 0, .int .i64 0, .slice Aq 0 cq, .int .i64 0] 28) = wq at HF HBQ ⊢
            obtain ⟨gq, hgq⟩ : ∃ g, g = wp.heap.size := ⟨_, rfl⟩
            rw [← hgq] at HF ⊢
            obtain ⟨d0, d1, d2, d3, d4, d5⟩ := slip_at HF.out
            clear hgq HPN HBP HF
            go_wp2
            go_ret
            exact ⟨rfl, HBQ.out⟩
          | some r =>
            obtain ⟨rw_, ra, rd, ro, rl, rc⟩ := r
            obtain ⟨hrd, kr, hkr⟩ := HRR.out _ rfl
            obtain ⟨hrb, hrt⟩ := read_ok hrd (by have := HT0.out; omega) hkr
            have HRT := Lib.hid (Ev.rounds hrt)
            have HKR := Lib.hid hkr
            have HPS : Hid (∀ W, Below w.heap.size w W → Calls Tryd.prog 15 #[.string text] W fun e w' => (∃ A c, e = .returned (.tuple #[.agg #[.string rw_, .string ra, .int .u64 rd, .int .i64 ro, .slice A rl.length c, .int .i64 rc], .int .i64 0]) ∧ Kd.C k49 w' A rl.length rl ∧ rl.length ≤ c) ∧ Below W.heap.size W w') := Lib.hid fun W hW => parse_some HPT.out W (HG.out.below hW)
            clear HPT HRR hrd hrb hrt hkr
            go_upto_region 16 with (go_at_call 15; refine (HPS.out _ HBT.out).mono ?_; rintro e wp ⟨⟨Aq, cq, rfl, hCq, hcq⟩, hb⟩; have HCQ := Lib.hid hCq; have HLQ := Lib.hid hcq; have HBP := Lib.hid (below_step HBT.out hb); clear hb hCq hcq)
            have HF := Lib.hid (heap_alloc_new wp (.cells #[.string rw_, .string ra, .int .u64 rd, .int .i64 ro, .slice Aq rl.length cq, .int .i64 rc] 28))
            have hbq : Below wp.heap.size wp (wp.alloc (.cells #[.string rw_, .string ra, .int .u64 rd, .int .i64 ro, .slice Aq rl.length cq, .int .i64 rc] 28)) := below_alloc (Below.refl _ _) _
            have HBQ := Lib.hid (below_step HBP.out hbq)
            have HCR := Lib.hid (Kd.C_below HCQ.out hbq)
            clear hbq
            generalize wp.alloc (.cells #[.string rw_, .string ra, .int .u64 rd, .int .i64 ro, .slice Aq rl.length cq, .int .i64 rc] 28) = wq at HF HBQ HCR ⊢
            obtain ⟨gq, hgq⟩ : ∃ g, g = wp.heap.size := ⟨_, rfl⟩
            rw [← hgq] at HF ⊢
            clear hgq HPS HBP HCQ
            have HTQ : Hid (Calls Tryd.prog 14 #[.agg #[.string rw_, .string ra, .int .u64 rd, .int .i64 ro, .slice Aq rl.length cq, .int .i64 rc]] wq fun e w' => e = .returned (.tuple #[.string text, .int .i64 0]) ∧ Below wq.heap.size wq w') := Lib.hid (by
              obtain ⟨k, hk⟩ := HRT.out
              exact slip_Text.calls k rw_ ra rd ro Aq cq rl rc text 0 wq (HG.out.below HBQ.out) HCR.out HLQ.out hk)
            have HCQ : Hid (∀ W, Below wq.heap.size wq W → Calls Tryd.prog 16 #[.agg #[.string rw_, .string ra, .int .u64 rd, .int .i64 ro, .slice Aq rl.length cq, .int .i64 rc]] W fun e w' => e = .returned (.int .i64 0) ∧ Below W.heap.size W w') := Lib.hid fun W hb =>
              slip_Check.calls kr rw_ ra rd ro Aq cq rl rc 0 W (HG.out.below (below_step HBQ.out hb)) (Kd.C_below HCR.out hb) HLQ.out HKR.out
            obtain ⟨nr, hnr⟩ : ∃ n, rl.length = n := ⟨_, rfl⟩
            rw [hnr] at HF HTQ HCQ ⊢
            clear hnr HCR HLQ HRT HKR
            obtain ⟨d0, d1, d2, d3, d4, d5⟩ := slip_at HF.out
            go_upto_region 19 with (go_at_call 14; refine (HTQ.out).mono ?_; rintro e wr ⟨rfl, hb⟩; have HBR := Lib.hid hb; clear hb)
            clear d0 d1 d2 d3 d4 d5 HTQ
            obtain ⟨d0, d1, d2, d3, d4, d5⟩ := slip_at (blk_below HF.out HBR.out)
            go_wp2_with (go_at_call 16; refine (HCQ.out _ HBR.out).mono ?_; rintro e wt ⟨rfl, hb⟩; have HBS := Lib.hid (below_step (below_step HBQ.out HBR.out) hb); clear hb)
            go_ret
            exact ⟨rfl, HBS.out⟩
        · obtain ⟨j, hj, hjl⟩ := HKEY.out cut (by omega) HCT.out.2
          have m1 : decide (cut < 0) = false := decide_eq_false hneg

          have HPX := Lib.hid (fun W (hW : Below w.heap.size w W) => parse_none (HPC.out j hjl) W (HG.out.below hW))
          go_upto_region 13 with (go_at_call 15; refine (HPX.out _ HB7.out).mono ?_; rintro e w8 ⟨⟨Ax, cx, rfl⟩, hb⟩; have HB8 := Lib.hid (below_step HB7.out hb); clear hb)
          have HBX := Lib.hid (below_alloc HB8.out (.cells #[.string ⟨#[]⟩, .string ⟨#[]⟩, .int .u64 0, .int .i64 0, .slice Ax 0 cx, .int .i64 0] 28))
          generalize w8.alloc (.cells #[.string ⟨#[]⟩, .string ⟨#[]⟩, .int .u64 0, .int .i64 0, .slice Ax 0 cx, .int .i64 0] 28) = w9 at HBX ⊢
          clear HPX HB8 HB7 HPC
          go_upto_region 15 with (fail)
          have HBT := HBX
          clear HBX t1 t2 t3 t4 HROWS HD HO HZ HSG HC HCL HN

          cases R with
          | none =>
            have HPN : Hid (∀ W, Below w.heap.size w W → Calls Tryd.prog 15 #[.string text] W fun e w' => (∃ A c, e = .returned (.tuple #[.agg #[.string ⟨#[]⟩, .string ⟨#[]⟩, .int .u64 0, .int .i64 0, .slice A 0 c, .int .i64 0], .int .i64 190])) ∧ Below W.heap.size W w') := Lib.hid fun W hW => parse_none HPT.out W (HG.out.below hW)
            clear HPT HRR
            go_upto_region 16 with (go_at_call 15; refine (HPN.out _ HBT.out).mono ?_; rintro e wp ⟨⟨Aq, cq, rfl⟩, hb⟩; have HBP := Lib.hid (below_step HBT.out hb); clear hb)
            have HF := Lib.hid (heap_alloc_new wp (.cells #[.string ⟨#[]⟩, .string ⟨#[]⟩, .int .u64 0, .int .i64 0, .slice Aq 0 cq, .int .i64 0] 28))
            have HBQ := Lib.hid (below_alloc HBP.out (.cells #[.string ⟨#[]⟩, .string ⟨#[]⟩, .int .u64 0, .int .i64 0, .slice Aq 0 cq, .int .i64 0] 28))
            generalize wp.alloc (.cells #[.string ⟨#[]⟩, .string ⟨#[]⟩, .int .u64 0, .int .i64 0, .slice Aq 0 cq, .int .i64 0] 28) = wq at HF HBQ ⊢
            obtain ⟨gq, hgq⟩ : ∃ g, g = wp.heap.size := ⟨_, rfl⟩
            rw [← hgq] at HF ⊢
            obtain ⟨d0, d1, d2, d3, d4, d5⟩ := slip_at HF.out
            clear hgq HPN HBP HF
            go_wp2
            go_ret
            exact ⟨rfl, HBQ.out⟩
          | some r =>
            obtain ⟨rw_, ra, rd, ro, rl, rc⟩ := r
            obtain ⟨hrd, kr, hkr⟩ := HRR.out _ rfl
            obtain ⟨hrb, hrt⟩ := read_ok hrd (by have := HT0.out; omega) hkr
            have HRT := Lib.hid (Ev.rounds hrt)
            have HKR := Lib.hid hkr
            have HPS : Hid (∀ W, Below w.heap.size w W → Calls Tryd.prog 15 #[.string text] W fun e w' => (∃ A c, e = .returned (.tuple #[.agg #[.string rw_, .string ra, .int .u64 rd, .int .i64 ro, .slice A rl.length c, .int .i64 rc], .int .i64 0]) ∧ Kd.C k49 w' A rl.length rl ∧ rl.length ≤ c) ∧ Below W.heap.size W w') := Lib.hid fun W hW => parse_some HPT.out W (HG.out.below hW)
            clear HPT HRR hrd hrb hrt hkr
            go_upto_region 16 with (go_at_call 15; refine (HPS.out _ HBT.out).mono ?_; rintro e wp ⟨⟨Aq, cq, rfl, hCq, hcq⟩, hb⟩; have HCQ := Lib.hid hCq; have HLQ := Lib.hid hcq; have HBP := Lib.hid (below_step HBT.out hb); clear hb hCq hcq)
            have HF := Lib.hid (heap_alloc_new wp (.cells #[.string rw_, .string ra, .int .u64 rd, .int .i64 ro, .slice Aq rl.length cq, .int .i64 rc] 28))
            have hbq : Below wp.heap.size wp (wp.alloc (.cells #[.string rw_, .string ra, .int .u64 rd, .int .i64 ro, .slice Aq rl.length cq, .int .i64 rc] 28)) := below_alloc (Below.refl _ _) _
            have HBQ := Lib.hid (below_step HBP.out hbq)
            have HCR := Lib.hid (Kd.C_below HCQ.out hbq)
            clear hbq
            generalize wp.alloc (.cells #[.string rw_, .string ra, .int .u64 rd, .int .i64 ro, .slice Aq rl.length cq, .int .i64 rc] 28) = wq at HF HBQ HCR ⊢
            obtain ⟨gq, hgq⟩ : ∃ g, g = wp.heap.size := ⟨_, rfl⟩
            rw [← hgq] at HF ⊢
            clear hgq HPS HBP HCQ
            have HTQ : Hid (Calls Tryd.prog 14 #[.agg #[.string rw_, .string ra, .int .u64 rd, .int .i64 ro, .slice Aq rl.length cq, .int .i64 rc]] wq fun e w' => e = .returned (.tuple #[.string text, .int .i64 0]) ∧ Below wq.heap.size wq w') := Lib.hid (by
              obtain ⟨k, hk⟩ := HRT.out
              exact slip_Text.calls k rw_ ra rd ro Aq cq rl rc text 0 wq (HG.out.below HBQ.out) HCR.out HLQ.out hk)
            have HCQ : Hid (∀ W, Below wq.heap.size wq W → Calls Tryd.prog 16 #[.agg #[.string rw_, .string ra, .int .u64 rd, .int .i64 ro, .slice Aq rl.length cq, .int .i64 rc]] W fun e w' => e = .returned (.int .i64 0) ∧ Below W.heap.size W w') := Lib.hid fun W hb =>
              slip_Check.calls kr rw_ ra rd ro Aq cq rl rc 0 W (HG.out.below (below_step HBQ.out hb)) (Kd.C_below HCR.out hb) HLQ.out HKR.out
            obtain ⟨nr, hnr⟩ : ∃ n, rl.length = n := ⟨_, rfl⟩
            rw [hnr] at HF HTQ HCQ ⊢
            clear hnr HCR HLQ HRT HKR
            obtain ⟨d0, d1, d2, d3, d4, d5⟩ := slip_at HF.out
            go_upto_region 19 with (go_at_call 14; refine (HTQ.out).mono ?_; rintro e wr ⟨rfl, hb⟩; have HBR := Lib.hid hb; clear hb)
            clear d0 d1 d2 d3 d4 d5 HTQ
            obtain ⟨d0, d1, d2, d3, d4, d5⟩ := slip_at (blk_below HF.out HBR.out)
            go_wp2_with (go_at_call 16; refine (HCQ.out _ HBR.out).mono ?_; rintro e wt ⟨rfl, hb⟩; have HBS := Lib.hid (below_step (below_step HBQ.out HBR.out) hb); clear hb)
            go_ret
            exact ⟨rfl, HBS.out⟩
      | false =>
        rw [hsb, if_neg (by simp)] at htv
        have HTV := Lib.hid (Ev.rounds htv)
        clear htv hsb
        have HTW : Hid (Calls Tryd.prog 14 #[.agg #[.string who, .string asset, .int .u64 day, .int .i64 op, .slice A n c, .int .i64 cl]] w3 fun e w' => e = .returned (.tuple #[.string ⟨#[]⟩, .int .i64 190]) ∧ Below w3.heap.size w3 w') := Lib.hid (by
          obtain ⟨k, hk⟩ := HTV.out
          have := slip_Text.calls k who asset day op A c ls cl ⟨#[]⟩ 190 w3 (HG.out.below HB3.out) (Kd.C_below HC.out HB3.out) (by rw [HN.out]; exact HCL.out) hk
          rw [HN.out] at this
          exact this)
        obtain ⟨cw0, cw1, cw2, cw3, cw4, cw5⟩ := slip_at HE3.out
        clear HTV
        go_upto_region 15 with (go_at_call 14; refine (HTW.out).mono ?_; rintro e w4 ⟨rfl, hb⟩; have HBT := Lib.hid (below_step HB3.out hb); clear hb)
        clear cw0 cw1 cw2 cw3 cw4 cw5 HTW HE3 HB3 HROWS HD HO HZ HSG HC HCL HN

        cases R with
        | none =>
          have HPN : Hid (∀ W, Below w.heap.size w W → Calls Tryd.prog 15 #[.string text] W fun e w' => (∃ A c, e = .returned (.tuple #[.agg #[.string ⟨#[]⟩, .string ⟨#[]⟩, .int .u64 0, .int .i64 0, .slice A 0 c, .int .i64 0], .int .i64 190])) ∧ Below W.heap.size W w') := Lib.hid fun W hW => parse_none HPT.out W (HG.out.below hW)
          clear HPT HRR
          go_upto_region 16 with (go_at_call 15; refine (HPN.out _ HBT.out).mono ?_; rintro e wp ⟨⟨Aq, cq, rfl⟩, hb⟩; have HBP := Lib.hid (below_step HBT.out hb); clear hb)
          have HF := Lib.hid (heap_alloc_new wp (.cells #[.string ⟨#[]⟩, .string ⟨#[]⟩, .int .u64 0, .int .i64 0, .slice Aq 0 cq, .int .i64 0] 28))
          have HBQ := Lib.hid (below_alloc HBP.out (.cells #[.string ⟨#[]⟩, .string ⟨#[]⟩, .int .u64 0, .int .i64 0, .slice Aq 0 cq, .int .i64 0] 28))
          generalize wp.alloc (.cells #[.string ⟨#[]⟩, .string ⟨#[]⟩, .int .u64 0, .int .i64 0, .slice Aq 0 cq, .int .i64 0] 28) = wq at HF HBQ ⊢
          obtain ⟨gq, hgq⟩ : ∃ g, g = wp.heap.size := ⟨_, rfl⟩
          rw [← hgq] at HF ⊢
          obtain ⟨d0, d1, d2, d3, d4, d5⟩ := slip_at HF.out
          clear hgq HPN HBP HF
          go_wp2
          go_ret
          exact ⟨rfl, HBQ.out⟩
        | some r =>
          obtain ⟨rw_, ra, rd, ro, rl, rc⟩ := r
          obtain ⟨hrd, kr, hkr⟩ := HRR.out _ rfl
          obtain ⟨hrb, hrt⟩ := read_ok hrd (by have := HT0.out; omega) hkr
          have HRT := Lib.hid (Ev.rounds hrt)
          have HKR := Lib.hid hkr
          have HPS : Hid (∀ W, Below w.heap.size w W → Calls Tryd.prog 15 #[.string text] W fun e w' => (∃ A c, e = .returned (.tuple #[.agg #[.string rw_, .string ra, .int .u64 rd, .int .i64 ro, .slice A rl.length c, .int .i64 rc], .int .i64 0]) ∧ Kd.C k49 w' A rl.length rl ∧ rl.length ≤ c) ∧ Below W.heap.size W w') := Lib.hid fun W hW => parse_some HPT.out W (HG.out.below hW)
          clear HPT HRR hrd hrb hrt hkr
          go_upto_region 16 with (go_at_call 15; refine (HPS.out _ HBT.out).mono ?_; rintro e wp ⟨⟨Aq, cq, rfl, hCq, hcq⟩, hb⟩; have HCQ := Lib.hid hCq; have HLQ := Lib.hid hcq; have HBP := Lib.hid (below_step HBT.out hb); clear hb hCq hcq)
          have HF := Lib.hid (heap_alloc_new wp (.cells #[.string rw_, .string ra, .int .u64 rd, .int .i64 ro, .slice Aq rl.length cq, .int .i64 rc] 28))
          have hbq : Below wp.heap.size wp (wp.alloc (.cells #[.string rw_, .string ra, .int .u64 rd, .int .i64 ro, .slice Aq rl.length cq, .int .i64 rc] 28)) := below_alloc (Below.refl _ _) _
          have HBQ := Lib.hid (below_step HBP.out hbq)
          have HCR := Lib.hid (Kd.C_below HCQ.out hbq)
          clear hbq
          generalize wp.alloc (.cells #[.string rw_, .string ra, .int .u64 rd, .int .i64 ro, .slice Aq rl.length cq, .int .i64 rc] 28) = wq at HF HBQ HCR ⊢
          obtain ⟨gq, hgq⟩ : ∃ g, g = wp.heap.size := ⟨_, rfl⟩
          rw [← hgq] at HF ⊢
          clear hgq HPS HBP HCQ
          have HTQ : Hid (Calls Tryd.prog 14 #[.agg #[.string rw_, .string ra, .int .u64 rd, .int .i64 ro, .slice Aq rl.length cq, .int .i64 rc]] wq fun e w' => e = .returned (.tuple #[.string text, .int .i64 0]) ∧ Below wq.heap.size wq w') := Lib.hid (by
            obtain ⟨k, hk⟩ := HRT.out
            exact slip_Text.calls k rw_ ra rd ro Aq cq rl rc text 0 wq (HG.out.below HBQ.out) HCR.out HLQ.out hk)
          have HCQ : Hid (∀ W, Below wq.heap.size wq W → Calls Tryd.prog 16 #[.agg #[.string rw_, .string ra, .int .u64 rd, .int .i64 ro, .slice Aq rl.length cq, .int .i64 rc]] W fun e w' => e = .returned (.int .i64 0) ∧ Below W.heap.size W w') := Lib.hid fun W hb =>
            slip_Check.calls kr rw_ ra rd ro Aq cq rl rc 0 W (HG.out.below (below_step HBQ.out hb)) (Kd.C_below HCR.out hb) HLQ.out HKR.out
          obtain ⟨nr, hnr⟩ : ∃ n, rl.length = n := ⟨_, rfl⟩
          rw [hnr] at HF HTQ HCQ ⊢
          clear hnr HCR HLQ HRT HKR
          obtain ⟨d0, d1, d2, d3, d4, d5⟩ := slip_at HF.out
          go_upto_region 19 with (go_at_call 14; refine (HTQ.out).mono ?_; rintro e wr ⟨rfl, hb⟩; have HBR := Lib.hid hb; clear hb)
          clear d0 d1 d2 d3 d4 d5 HTQ
          obtain ⟨d0, d1, d2, d3, d4, d5⟩ := slip_at (blk_below HF.out HBR.out)
          go_wp2_with (go_at_call 16; refine (HCQ.out _ HBR.out).mono ?_; rintro e wt ⟨rfl, hb⟩; have HBS := Lib.hid (below_step (below_step HBQ.out HBR.out) hb); clear hb)
          go_ret
          exact ⟨rfl, HBS.out⟩
    · have m1 : (1000 : Int) < (text.size : Int) := by omega
      have m2 : decide ((text.size : Int) > 1000) = true := decide_eq_true m1
      clear htx
      go_wp2_with (go_at_call 13; refine (HSM2.out).mono ?_; rintro e w3 ⟨rfl, hb⟩; have HB3 := Lib.hid (below_step HB2.out hb); clear hb)
      go_ret
      exact ⟨rfl, HB3.out⟩
  · have hsf : smallB who asset ls = false := by
      cases h : smallB who asset ls with
      | false => rfl
      | true => exact absurd h hsm
    rw [hsf] at HSM2
    clear hsm hsf
    go_wp2_with (go_at_call 13; refine (HSM2.out).mono ?_; rintro e w3 ⟨rfl, hb⟩; have HB3 := Lib.hid (below_step HB2.out hb); clear hb)
    go_ret
    exact ⟨rfl, HB3.out⟩
end Go.Proofs.YtnngbnhbmgdkoaaDoor.E
