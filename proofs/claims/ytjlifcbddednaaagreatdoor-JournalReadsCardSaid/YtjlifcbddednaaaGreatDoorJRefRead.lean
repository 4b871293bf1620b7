/- The walk of the document's Read. -/
import Derived.Test.YtjlifcbddednaaaGreatDoorJRead
import Derived.Test.YtjlifcbddednaaaGreatDoorPx9
import Derived.Test.YtjlifcbddednaaaGreatDoorPx13
import Derived.Test.YtjlifcbddednaaaGreatDoorPx13
import Derived.WalkKit
import Derived.BigQuiet
import Derived.Deep.QuietTactic
import Derived.Lib.Hide
namespace Go.Proofs.YtjlifcbddednaaaGreatDoor.E
open Go.RowKit Go.Proofs.YtjlifcbddednaaaGreatDoor.P Go.Proofs.YtjlifcbddednaaaGreatDoorW.PrintWords Go.Proofs.YtjlifcbddednaaaGreatDoorW.PrintLast
/-- Is an entry that was read not taken? -/
def badR (wrong : Int) (q : Bool) (out : List Ent2_) (n : Int) : Bool := !(decide (wrong = 0)) || !q || (decide (0 < out.length) && decide (n ≤ (out.getD (out.length - 1) eZ).f0))
/-- The entries that pairs are, by the document; m: rounds. -/
def readR (k : Nat) : Nat → List Pr_ → List Ent2_ → Option (List Ent2_ × Int)
  | 0, _, _ => none
  | m + 1, l, out => if l.length = 0 then some (out, 0) else (cambistref12_guess.f k l).bind fun x =>
      if x.2.2.2.2.2 = false then some ([], 121) else
      (cambistref12_Pairs.f k x.1 x.2.1 x.2.2.1 x.2.2.2.1).bind fun y =>
        if 1 ≤ x.2.2.2.2.1 ∧ x.2.2.2.2.1 ≤ (l.length : Int) ∧ out.length < 1000000 then (cambistref12_same.f k y.1 (l.take x.2.2.2.2.1.toNat)).bind fun q =>
          if badR y.2 q out x.1 = true then some ([], 121) else readR k m (l.drop x.2.2.2.2.1.toNat) (out ++ [⟨x.1, x.2.1, x.2.2.1, x.2.2.2.1⟩])
        else none
def cambistref12_Read.f (k : Nat) (l : List Pr_) : Option (List Ent2_ × Int) := readR k (l.length + 1) l []
structure RfI (w : World) (k : Nat) (A : Option Addr) (c : Nat) (L : List Pr_) (out : List Ent2_) (v : Value) (m : Nat) (r1 : List Ent2_) (r2 : Int) (W : World) : Prop where
  row : Kd.C k26 w A L.length L
  le : L.length ≤ c
  own : Kd.R k39 39 W w.heap.size (fun _ => True) v out
  below : Below w.heap.size w W
  g0 : Glob w
  todo : readR k m L out = some (r1, r2)
set_option maxHeartbeats 4000000 in
set_option maxRecDepth 100000 in
set_option linter.unusedSimpArgs false in
theorem cambistref12_Read.calls_ (k : Nat) (A0 : Option Addr) (c0 : Nat) (l0 : List Pr_) (r1 : List Ent2_) (r2 : Int) (w : World) (hG : Glob w) (hr0 : Kd.C k26 w A0 l0.length l0) (hc0 : l0.length ≤ c0) (h : cambistref12_Read.f k l0 = some (r1, r2)) :
    Calls Tryz.prog 6 #[.slice A0 l0.length c0] w (RdRet w r1 r2) := by
  have HI : Hid (RfI w k A0 c0 l0 [] (.slice none 0 0) (l0.length + 1) r1 r2 w) := Lib.hid ⟨hr0, hc0, Kd.R_nil _ _ _ _ _, Below.refl _ _, hG, h⟩
  clear hr0 hc0 hG h
  obtain ⟨i36, hi36, _, hz36, _⟩ := info_parts (show (Tryz.prog.info? 26).map (fun i => (i.zero, i.size, i.bytes)) = some (some (.agg #[.string ⟨#[]⟩, .string ⟨#[]⟩]), 2, 32) by kernel_rfl)
  go_enter Tryz.func6, Tryz.ntmps6
  go_wp2
  go_loopw [0, 4] (fun u v wr => ∃ (m : Nat) (L : List Pr_) (A : Option Addr) (c : Nat) (out : List Ent2_), u = .slice A L.length c ∧ Hid (RfI w k A c L out v m r1 r2 wr)) (fun u _ _ => lenOf u)
  case atStart => exact ⟨_, _, _, _, _, rfl, HI⟩
  case round =>
    clear HI
    obtain ⟨m, L, A, c, out, rfl, HI⟩ := hrel
    by_cases hl : L.length = 0
    · have hn0 : decide ((L.length : Int) > 0) = false := decide_eq_false (by omega)
      have hn1 : decide (0 < L.length) = false := decide_eq_false (by omega)
      have HF : Hid (out = r1 ∧ r2 = 0) := Lib.hid (by
        have h := HI.out.todo
        cases m with
        | zero => cases h
        | succ m =>
          unfold readR at h
          rw [if_pos hl] at h
          have := Option.some.inj h
          exact ⟨(Prod.mk.inj this).1, (Prod.mk.inj this).2.symm⟩)
      clear hl
      go_wp2
      go_ret2
      exact rd_ok HF.out HI.out.own HI.out.below
    · have hn0 : decide ((L.length : Int) > 0) = true := decide_eq_true (by omega)
      have hn1 : decide (0 < L.length) = true := decide_eq_true (by omega)
      cases m with
      | zero => exact absurd HI.out.todo (by unfold readR; simp)
      | succ m =>
        have h := HI.out.todo
        unfold readR at h
        rw [if_neg hl] at h
        obtain ⟨⟨n, d, rq, legs, cnt, is⟩, hf, h⟩ := Option.bind_eq_some_iff.mp h
        simp only at h
        have HH := Lib.hid h
        clear h hl
        have HFI : Hid (Calls Tryz.prog 14 #[.slice A L.length c] wr fun e w' => ∃ v3_ : Value, e = .returned (.tuple #[.agg #[.int .u64 n, .int .u64 d, .string rq, v3_], .int .i64 cnt, .bool is]) ∧ Kd.R k36 36 w' wr.heap.size (fun _ => True) v3_ legs ∧ Below wr.heap.size wr w') :=
          Lib.hid (cambistref12_guess.calls k A c L n d rq legs cnt is wr (HI.out.g0.below HI.out.below) (Kd.C_below HI.out.row HI.out.below) HI.out.le hf)
        clear hf
        go_upto_region 4 with (first | (go_at_call 14; refine (HFI.out).mono ?_; rintro e w3 ⟨v3, rfl, hR, hb⟩; obtain ⟨A3, c3, hv3⟩ := Kd.R_slice hR; subst hv3; have HR3 := Lib.hid hR; have HB3 := Lib.hid hb; clear hR hb) | ((with_reducible refine gate_dst (N := 5) rfl ?_); refine box_event ?hg (N := 5) ?hd (cs := #[.int .u64 0, .int .u64 0, .string ⟨#[]⟩, .slice none 0 0]) (t := 39) ?hr ?_; (case hd => rfl); (case hg => rfl); (case hr => first | (go_simp; done) | (go_simp; rfl)); intro gb hgb w5 hbx hb; have HGE := Lib.hid (show w3.heap.size ≤ gb by omega); have HB5 := Lib.hid hb; have b0 : w5.cell? ⟨gb, 0, none⟩ = some (.int .u64 0) := (blk_cell hbx 0).trans rfl; have b1 : w5.cell? ⟨gb, 1, none⟩ = some (.int .u64 0) := (blk_cell hbx 1).trans rfl; have b2 : w5.cell? ⟨gb, 2, none⟩ = some (.string ⟨#[]⟩) := (blk_cell hbx 2).trans rfl; have b3 : w5.cell? ⟨gb, 3, none⟩ = some (.slice none 0 0) := (blk_cell hbx 3).trans rfl; have f0 := blk_frozen hbx 0; have f1 := blk_frozen hbx 1; have f2 := blk_frozen hbx 2; have f3 := blk_frozen hbx 3; have HBX := Lib.hid hbx; clear hb hbx hgb))
        clear HFI
        have hb3 := HB3.out
        have hbz : Below wr.heap.size wr ((((w5.setCell ⟨gb, 0, none⟩ (.int .u64 n)).setCell ⟨gb, 1, none⟩ (.int .u64 d)).setCell ⟨gb, 2, none⟩ (.string rq)).setCell ⟨gb, 3, none⟩ (.slice A3 legs.length c3)) := below_set (below_set (below_set (below_set (below_step hb3 HB5.out) (Nat.le_trans hb3.size HGE.out)) (Nat.le_trans hb3.size HGE.out)) (Nat.le_trans hb3.size HGE.out)) (Nat.le_trans hb3.size HGE.out)
        have hb3z : Below w3.heap.size w3 ((((w5.setCell ⟨gb, 0, none⟩ (.int .u64 n)).setCell ⟨gb, 1, none⟩ (.int .u64 d)).setCell ⟨gb, 2, none⟩ (.string rq)).setCell ⟨gb, 3, none⟩ (.slice A3 legs.length c3)) := below_set (below_set (below_set (below_set HB5.out HGE.out) HGE.out) HGE.out) HGE.out
        have HBZ := Lib.hid hbz
        have HLZ := Lib.hid (Kd.R_below HR3.out hb3z)
        have HBK := Lib.hid (blk_put (blk_put (blk_put (blk_put (cs' := #[.int .u64 n, .int .u64 0, .string ⟨#[]⟩, .slice none 0 0]) HBX.out 0 (.int .u64 n) rfl) (cs' := #[.int .u64 n, .int .u64 d, .string ⟨#[]⟩, .slice none 0 0]) 1 (.int .u64 d) rfl) (cs' := #[.int .u64 n, .int .u64 d, .string rq, .slice none 0 0]) 2 (.string rq) rfl) (cs' := #[.int .u64 n, .int .u64 d, .string rq, .slice A3 legs.length c3]) 3 (.slice A3 legs.length c3) rfl)
        generalize (((w5.setCell ⟨gb, 0, none⟩ (.int .u64 n)).setCell ⟨gb, 1, none⟩ (.int .u64 d)).setCell ⟨gb, 2, none⟩ (.string rq)).setCell ⟨gb, 3, none⟩ (.slice A3 legs.length c3) = wz at HBZ HLZ HBK ⊢
        clear hb3 hb3z hbz b0 b1 b2 b3 f0 f1 f2 f3 HBX HB5 HGE HR3 HB3
        have HOZ := Lib.hid (Kd.R_below HI.out.own HBZ.out)
        have k0 : wz.cell? ⟨gb, 0, none⟩ = some (.int .u64 n) := (blk_cell HBK.out 0).trans rfl
        have k1 : wz.cell? ⟨gb, 1, none⟩ = some (.int .u64 d) := (blk_cell HBK.out 1).trans rfl
        have k2 : wz.cell? ⟨gb, 2, none⟩ = some (.string rq) := (blk_cell HBK.out 2).trans rfl
        have k3 : wz.cell? ⟨gb, 3, none⟩ = some (.slice A3 legs.length c3) := (blk_cell HBK.out 3).trans rfl
        obtain ⟨Ao, co, hvo, hco, hCo⟩ := Kd.R_reads HOZ.out
        subst hvo
        cases is with
        | false =>
          have HF : Hid (r1 = [] ∧ r2 = 121) := Lib.hid (by
            have h := HH.out
            rw [if_pos rfl] at h
            have := Option.some.inj h
            exact ⟨(Prod.mk.inj this).1.symm, (Prod.mk.inj this).2.symm⟩)
          clear HH hCo
          obtain ⟨hF1, hF2⟩ := HF.out
          subst hF1
          have HF2 := Lib.hid hF2; clear hF2 HF
          go_wp2
          go_ret2
          exact rd_none HF2.out (below_step HI.out.below HBZ.out)
        | true =>
          have hmx : out.length ≤ 9223372036854775807 := hCo.2.1
          have HMX := Lib.hid hmx; clear hmx hCo
          have h := HH.out
          rw [if_neg (by decide)] at h
          obtain ⟨⟨again, wrong⟩, hpp, h⟩ := Option.bind_eq_some_iff.mp h
          simp only at h
          clear HH
          have hlg := Kd.R_reads' HLZ.out
          have HPA : Hid (Calls Tryz.prog 15 #[.agg #[.int .u64 n, .int .u64 d, .string rq, .slice A3 legs.length c3]] wz fun e w' => ∃ v0_ : Value, e = .returned (.tuple #[v0_, .int .i64 wrong]) ∧ Kd.R k26 26 w' wz.heap.size (fun _ => True) v0_ again ∧ Below wz.heap.size wz w') :=
            Lib.hid (cambistref12_Pairs.calls k n d rq A3 c3 legs again wrong wz (HI.out.g0.below (below_step HI.out.below HBZ.out)) hlg.2.2 hlg.2.1 hpp)
          clear hlg hpp
          by_cases hq : 1 ≤ cnt ∧ cnt ≤ (L.length : Int) ∧ out.length < 1000000
          · rw [if_pos hq] at h
            obtain ⟨qe, heq, h⟩ := Option.bind_eq_some_iff.mp h
            obtain ⟨q, rfl⟩ : ∃ q : Nat, cnt = (q : Int) := ⟨cnt.toNat, by omega⟩
            rw [Int.toNat_natCast] at heq h
            obtain ⟨hq1, hq2, hq3⟩ := hq
            have hq1' : 1 ≤ q := by omega
            have hq2' : q ≤ L.length := by omega
            have HH2 := Lib.hid h; clear h
            have HEQ : Hid (∀ (W : World) (v : Value), Below w.heap.size w W → Kd.R k26 26 W wz.heap.size (fun _ => True) v again → ∃ Ag cg, v = .slice Ag again.length cg ∧ Calls Tryz.prog 16 #[.slice Ag again.length cg, .slice A q c] W fun e w' => e = .returned (.bool qe) ∧ Below W.heap.size W w') := Lib.hid (fun W v hb hR => by
              obtain ⟨Ag, cg, hv, hcg, hCg⟩ := Kd.R_reads hR
              have hC2 := Kd.C_take (Kd.C_below HI.out.row hb) hq2'
              have hln : (L.take q).length = q := by rw [List.length_take]; omega
              have := cambistref12_same.calls k Ag cg again A c (L.take q) qe W (HI.out.g0.below hb) hCg hcg hC2 (by rw [hln]; have := HI.out.le; omega) heq
              rw [hln] at this
              exact ⟨Ag, cg, hv, this.mono (fun e w' h => by first | exact h | exact ⟨h.1, h.2.below⟩ | exact ⟨h.1, h.2 ▸ Below.refl _ _⟩)⟩)
            clear heq
            have hs1 : ∀ W : World, (Instr.slice 22 (.slice A L.length c) none (some (.int .i64 (q : Int))) none).run Tryz.prog W = .ok (.slice A q c) W := fun W => by
              have := cut_to (P := Tryz.prog) (W := W) 22 26 .i64 Tryz.underlying22 hi36 A L.length c (q : Int) (by omega) (by omega) HI.out.le
              rwa [Int.toNat_natCast] at this
            have hs2 : ∀ W : World, (Instr.slice 22 (.slice A L.length c) (some (.int .i64 (q : Int))) none none).run Tryz.prog W = .ok (.slice (if c = q then A else A.map (·.add (q * 2))) (L.length - q) (c - q)) W := fun W => by
              have := cut_from (P := Tryz.prog) (W := W) 22 26 .i64 Tryz.underlying22 hi36 2 hz36 A L.length c (q : Int) (by omega) (by omega)
              rwa [Int.toNat_natCast] at this
            obtain ⟨A1, hA1⟩ : ∃ A1, A1 = (if c = q then A else A.map (·.add (q * 2))) := ⟨_, rfl⟩
            rw [← hA1] at hs2
            have HA1 : Hid (Kd.C k26 w A1 (L.drop q).length (L.drop q)) := Lib.hid (hA1 ▸ Kd.C_drop HI.out.row hq2' HI.out.le)
            clear hA1
            have HQ3 := Lib.hid hq3
            have HQ2 := Lib.hid hq2'
            have HQ1 := Lib.hid hq1'
            clear hq1 hq2 hq3 hq2' hq1'
            go_upto_region 8 with (first | (go_at_call 15; (with_reducible refine (HPA.out).mono ?_); rintro e w6 ⟨v6, rfl, hR, hb⟩; obtain ⟨Ag, cg, hv6, hce⟩ := HEQ.out w6 v6 (below_step (below_step HI.out.below HBZ.out) hb) hR; subst hv6; have HCE := Lib.hid hce; have HB6 := Lib.hid hb; have HBA := Lib.hid (below_step (below_step HI.out.below HBZ.out) hb); clear hce hR hb HPA HEQ k0 k1 k2 k3) | (go_at_call 16; (with_reducible refine (HCE.out).mono ?_); rintro e w7 ⟨rfl, hb⟩; have HB7 := Lib.hid hb; have hbk7 := blk_below (blk_below HBK.out HB6.out) hb; have HBK7 := Lib.hid hbk7; clear hb hbk7 HCE))
            have HBW := Lib.hid (below_step HBA.out HB7.out)
            have HLW := Lib.hid (Kd.R_below (Kd.R_below HLZ.out HB6.out) HB7.out)
            have HOW := Lib.hid (Kd.R_below (Kd.R_below HOZ.out HB6.out) HB7.out)
            clear HBZ HLZ HBK HOZ HB6 HBA HB7
            have m0 : w7.cell? ⟨gb, 0, none⟩ = some (.int .u64 n) := (blk_cell HBK7.out 0).trans rfl
            have hlast : 0 < out.length → ∃ ao, Ao = some ao ∧ w7.cell? (ao.add (((out.length : Int) - 1).toNat * 4)) = some (.int .u64 (out.getD (out.length - 1) eZ).f0) := fun hp => by
              obtain ⟨Ao', co', hvo', hco', hCo'⟩ := Kd.R_reads HOW.out
              obtain ⟨rfl, _, _⟩ : Ao' = Ao ∧ True ∧ True := by cases hvo'; exact ⟨rfl, trivial, trivial⟩
              obtain ⟨ao, A4, c4, e, q0, _⟩ := at_T39 hCo' ((out.length : Int) - 1) (by omega) (by omega)
              refine ⟨ao, e, q0.trans ?_⟩
              unfold rd_T39
              rw [show ((out.length : Int) - 1).toNat = out.length - 1 by omega]
              rfl
            obtain ⟨bad, hbad⟩ : ∃ bad, badR wrong qe out n = bad := ⟨_, rfl⟩
            have HBD := Lib.hid hbad
            have h2 := HH2.out
            rw [hbad] at h2
            have HH3 := Lib.hid h2
            clear HH2 h2 hbad
            go_cut [54] (fun v54 wc => v54 = .bool bad ∧ Hid (Below w.heap.size w wc) ∧ Hid (Kd.R k36 36 wc wr.heap.size (fun _ => True) (.slice A3 legs.length c3) legs) ∧ Hid (wc.heap[gb]? = some (.cells #[.int .u64 n, .int .u64 d, .string rq, .slice A3 legs.length c3] 39 (0, 0))) ∧ Hid (Kd.R k39 39 wc w.heap.size (fun _ => True) (.slice Ao out.length co) out))
            case first =>
              clear hs1 hs2
              by_cases hw : wrong = 0
              · subst hw
                cases qe with
                | false =>
                  have hbv : bad = true := HBD.out.symm.trans (by unfold badR; simp)
                  subst hbv
                  clear hlast
                  go_quiet (fail)
                  go_wp2
                  go_meet
                  case rel => exact ⟨rfl, Lib.hid (pw_below_drewN HBW.out _), Lib.hid (Kd.R_drewN HLW.out _), Lib.hid (blk_drewN HBK7.out _), Lib.hid (Kd.R_drewN HOW.out _)⟩
                | true =>
                  by_cases hp : 0 < out.length
                  · obtain ⟨ao, rfl, q0⟩ := hlast hp
                    obtain ⟨x, hx⟩ : ∃ x, (out.getD (out.length - 1) eZ).f0 = x := ⟨_, rfl⟩
                    rw [hx] at q0
                    have hbv : bad = decide (n ≤ x) := HBD.out.symm.trans (by unfold badR; rw [hx]; simp [hp])
                    obtain ⟨b, hb⟩ : ∃ b, decide (n ≤ x) = b := ⟨_, rfl⟩
                    rw [hb] at hbv
                    subst hbv
                    clear hx hlast
                    have q0a := q0
                    rw [show ((out.length : Int) - 1).toNat = out.length - 1 by omega] at q0a
                    have e1 : decide ((out.length : Int) > 0) = true := decide_eq_true (by omega)
                    have e2 : decide (0 < out.length) = true := decide_eq_true hp
                    have p1 : (1 : Int) ≤ (out.length : Int) := by omega
                    have p2 : 1 ≤ out.length := hp
                    have p3 : IntKind.i64.wrap ((out.length : Int) - 1) = (out.length : Int) - 1 := (by have := HMX.out; rw [IntKind.wrap_i64]; omega)
                    have p4 : (0 : Int) ≤ (out.length : Int) - 1 := by omega
                    have p5 : (out.length : Int) - 1 < (out.length : Int) := by omega
                    go_quiet (fail)
                    go_wp2
                    go_meet
                    case rel => exact ⟨rfl, Lib.hid (pw_below_drewN HBW.out _), Lib.hid (Kd.R_drewN HLW.out _), Lib.hid (blk_drewN HBK7.out _), Lib.hid (Kd.R_drewN HOW.out _)⟩
                  · have hbv : bad = false := HBD.out.symm.trans (by unfold badR; simp [hp])
                    subst hbv
                    have e1 : decide ((out.length : Int) > 0) = false := decide_eq_false (by omega)
                    have e2 : decide (0 < out.length) = false := decide_eq_false hp
                    clear hlast hp
                    go_quiet (fail)
                    go_wp2
                    go_meet
                    case rel => exact ⟨rfl, Lib.hid (pw_below_drewN HBW.out _), Lib.hid (Kd.R_drewN HLW.out _), Lib.hid (blk_drewN HBK7.out _), Lib.hid (Kd.R_drewN HOW.out _)⟩
              · have hbv : bad = true := HBD.out.symm.trans (by unfold badR; simp [hw])
                subst hbv
                have hw1 : (wrong == 0) = false := beq_eq_false_iff_ne.2 hw
                have hw2 : (wrong != 0) = true := bne_iff_ne.2 hw
                clear hlast hw
                go_quiet (fail)
                go_wp2
                go_meet
                case rel => exact ⟨rfl, Lib.hid (pw_below_drewN HBW.out _), Lib.hid (Kd.R_drewN HLW.out _), Lib.hid (blk_drewN HBK7.out _), Lib.hid (Kd.R_drewN HOW.out _)⟩
            case rest =>
              clear HBW HLW HBK7 HOW m0 hlast HBD
              obtain ⟨rfl, HBW, HLW, HBK, HOW⟩ := hcut
              cases bad with
              | true =>
                have HF : Hid (r1 = [] ∧ r2 = 121) := Lib.hid (by
                  have h := HH3.out
                  rw [if_pos rfl] at h
                  have := Option.some.inj h
                  exact ⟨(Prod.mk.inj this).1.symm, (Prod.mk.inj this).2.symm⟩)
                clear HH3 hs1 hs2
                obtain ⟨hF1, hF2⟩ := HF.out
                subst hF1
                have HF2 := Lib.hid hF2; clear hF2 HF
                go_wp2
                go_ret2
                exact rd_none HF2.out HBW.out
              | false =>
                have HTD : Hid (readR k m (L.drop q) (out ++ [⟨n, d, rq, legs⟩]) = some (r1, r2)) := Lib.hid (by
                  have h := HH3.out
                  rwa [if_neg (by decide)] at h)
                clear HH3 hs1
                have k0 : wc.cell? ⟨gb, 0, none⟩ = some (.int .u64 n) := (blk_cell HBK.out 0).trans rfl
                have k1 : wc.cell? ⟨gb, 1, none⟩ = some (.int .u64 d) := (blk_cell HBK.out 1).trans rfl
                have k2 : wc.cell? ⟨gb, 2, none⟩ = some (.string rq) := (blk_cell HBK.out 2).trans rfl
                have k3 : wc.cell? ⟨gb, 3, none⟩ = some (.slice A3 legs.length c3) := (blk_cell HBK.out 3).trans rfl
                go_wp2_with (at_builtin; refine StopR_.out (p := _) ?_)
                refine ⟨?_⟩
                have hbw := HBW.out
                have hlt : ∀ k, (Value.slice Ao out.length co).ownBlock = some k → k < wr.heap.size := Kd.R_lt HI.out.own
                have hlg := legs_apart (w := w) (v := .slice Ao out.length co) HLW.out hlt HI.out.below.size
                have hown := HOW.out
                refine Kd.R_append k39 (w0 := w) (W := wc) w.heap.size rfl _ _ 27 39 _ 56 rfl Tryz.underlying27 info_e rfl (by decide) (by decide) (.slice Ao out.length co) out ⟨n, d, rq, legs⟩ [.int .u64 n, .int .u64 d, .string rq, .slice A3 legs.length c3] (fun _ => True) (fun k => some k ≠ (Value.slice Ao out.length co).ownBlock) rfl rfl (k39_mkM wc w.heap.size _ ⟨n, d, rq, legs⟩ hlg) (fun _ h => ⟨trivial, h⟩) (fun _ _ => trivial) hown hbw hbw.size (by have := HQ3.out; omega) ?_
                intro v1 w9 ho1 hb1 hg1 hat1
                have HO1 := Lib.hid ho1; have HB1 := Lib.hid hb1
                clear ho1 hb1 hg1 hat1 hbw hlt hlg hown
                go_wp2
                go_roundw
                case rel => exact ⟨m, L.drop q, A1, c - q, _, by rw [List.length_drop], Lib.hid ⟨HA1.out, by rw [List.length_drop]; have := HI.out.le; omega, HO1.out, HB1.out, HI.out.g0, HTD.out⟩⟩
                case measure => (have := HQ2.out; have := HQ1.out; simp [lenOf]; omega)
          · rw [if_neg hq] at h
            cases h
theorem cambistref12_Read.calls (k : Nat) (A0 : Option Addr) (c0 : Nat) (l0 : List Pr_) (r1 : List Ent2_) (r2 : Int) (w : World) (hG : Glob w) (hr0 : Kd.C k26 w A0 l0.length l0) (hc0 : l0.length ≤ c0) (h : cambistref12_Read.f k l0 = some (r1, r2)) :
    Calls Tryz.prog 6 #[.slice A0 l0.length c0] w fun e w' => ∃ v0_ : Value, e = .returned (.tuple #[v0_, .int .i64 r2]) ∧ Kd.R k39 39 w' w.heap.size (fun _ => True) v0_ r1 ∧ Below w.heap.size w w' :=
  (cambistref12_Read.calls_ k A0 c0 l0 r1 r2 w hG hr0 hc0 h).mono fun _ _ h => h
theorem readL_mono (k : Nat) : ∀ (m : Nat) (l : List Pr_) (out : List Ent2_), LeO (readL k m l out) (readL (k + 1) m l out)
  | 0, _, _ => LeO.refl _
  | m + 1, l, out => by
    unfold readL
    exact LeO.ite (LeO.refl _) (LeO.bind (journal_first.mono _ _) fun x => LeO.ite (LeO.refl _) (LeO.bind (journal_Pairs.mono _ _ _ _ _) fun y => LeO.ite (LeO.ite (LeO.bind (api_Pair.mono _ _ _) fun q => LeO.ite (readL_mono k m _ _) (LeO.refl _)) (LeO.refl _)) (LeO.refl _)))
theorem readR_mono (k : Nat) : ∀ (m : Nat) (l : List Pr_) (out : List Ent2_), LeO (readR k m l out) (readR (k + 1) m l out)
  | 0, _, _ => LeO.refl _
  | m + 1, l, out => by
    unfold readR
    exact LeO.ite (LeO.refl _) (LeO.bind (cambistref12_guess.mono _ _) fun x => LeO.ite (LeO.refl _) (LeO.bind (cambistref12_Pairs.mono _ _ _ _ _) fun y => LeO.ite (LeO.bind (cambistref12_same.mono _ _ _) fun q => LeO.ite (LeO.refl _) (readR_mono k m _ _)) (LeO.refl _)))
theorem journal_Read.mono (l : List Pr_) (k : Nat) : LeO (journal_Read.f k l) (journal_Read.f (k + 1) l) := readL_mono k _ _ _
theorem cambistref12_Read.mono (l : List Pr_) (k : Nat) : LeO (cambistref12_Read.f k l) (cambistref12_Read.f (k + 1) l) := readR_mono k _ _ _
end Go.Proofs.YtjlifcbddednaaaGreatDoor.E
