/- The law SlipChecks of the given program: the statement of entries that may be is one that may be. -/
import Derived.Test.YtnngbnhbmgdkoaaDoorSPlain
import Derived.Test.YtnngbnhbmgdkoaaDoorAwake19
import Derived.Test.YtnngbnhbmgdkoaaDoorOpenS
import Derived.Test.YtnngbnhbmgdkoaaDoorJCheck
import Derived.Laws.CopyOwn
import Derived.Laws.Tables
import Derived.WalkKit
import Derived.BigQuiet
import Derived.Deep.QuietTactic
import Derived.Laws.EntriesVeiled
import Derived.Lib.Hide
namespace Go.Proofs.YtnngbnhbmgdkoaaDoor.E
open Go.RowKit Go.Proofs.YtnngbnhbmgdkoaaDoor.P Go.Proofs.YtnngbnhbmgdkoaaDoorW.PrintWords Go.Proofs.YtnngbnhbmgdkoaaDoorW.PrintLast
theorem checks_64 {l : List Ent_} (h : ∀ a ∈ l, goodEnt a) : legs64 l := fun x hx g hg => by
  have := ((h x hx).2.2.2.1 g hg).2.2
  simp [Lit.wf] at this
  exact this
theorem check_of {x : Ent_} (h : goodEnt x) : journal_Check.f x.f0 x.f1 x.f2 x.f3 = some (chkOf (checkB x.f2 x.f3)) := by
  unfold journal_Check.f
  refine if_pos ⟨decide_eq_true h.2.2.1, fun g hg => ?_⟩
  have h1 := h.2.2.2.1 g hg
  have h2 := i64_range h1.2.2
  unfold legIn
  have h3 : g.f0.size ≤ 140737488351232 := h1.1
  have h4 : g.f1.size ≤ 140737488351232 := h1.2.1
  rw [decide_eq_true h3, decide_eq_true h4, decide_eq_true h2.1, decide_eq_true h2.2]
  rfl
theorem add_zero_ (b o : Nat) : (⟨b, o, none⟩ : Addr).add 0 = ⟨b, o, none⟩ := by unfold Addr.add; simp
theorem ent_cells {w : World} {A : Option Addr} {l : List Ent_} (h : Kd.C k45 w A l.length l) (k : Nat) (hk : k < l.length) :
    ∃ ad A3 c3, A = some ad ∧ w.cell? (ad.add (k * 4)) = some (.int .u64 l[k].f0) ∧ w.cell? ⟨(ad.add (k * 4)).block, (ad.add (k * 4)).off + 1, none⟩ = some (.int .u64 l[k].f1) ∧ w.cell? ⟨(ad.add (k * 4)).block, (ad.add (k * 4)).off + 2, none⟩ = some (.string l[k].f2) ∧
      w.cell? ⟨(ad.add (k * 4)).block, (ad.add (k * 4)).off + 3, none⟩ = some (.slice A3 l[k].f3.length c3) ∧ l[k].f3.length ≤ c3 ∧ Kd.C k47 w A3 l[k].f3.length l[k].f3 := by
  obtain ⟨ad, A3, c3, e, h0, h1, h2, h3, h4, h5⟩ := at_T45 h (k : Int) (by omega) (by omega)
  rw [rd_ent l k hk] at h0 h1 h2 h3 h4 h5
  exact ⟨ad, A3, c3, e, h0, h1, h2, h3, h4, h5⟩
/-- The first leg of the first entry. -/
theorem first_cells {w : World} {A : Option Addr} {x : Ent_} {t : List Ent_} {g : Leg_} {u : List Leg_} (h : Kd.C k45 w A (x :: t).length (x :: t)) (hx : x.f3 = g :: u) :
    ∃ eb eo lb lo c3, A = some ⟨eb, eo, none⟩ ∧ w.cell? ⟨eb, eo + 3, none⟩ = some (.slice (some ⟨lb, lo, none⟩) (g :: u).length c3) ∧ w.cell? ⟨lb, lo, none⟩ = some (.string g.f0) ∧ w.cell? ⟨lb, lo + 1, none⟩ = some (.string g.f1) ∧ w.cell? ⟨eb, eo + 1, none⟩ = some (.int .u64 x.f1) := by
  obtain ⟨ad, A3, c3, e, h0, h1, h2, h3, h4, h5⟩ := ent_cells h 0 (by simp)
  simp only [List.getElem_cons_zero, Nat.zero_mul] at h0 h1 h3 h4 h5
  rw [hx] at h3 h5
  obtain ⟨ad2, e2, p0, p1, _⟩ := at_T47 h5 0 (by omega) (by simp only [List.length_cons]; omega)
  have er : rd_T47 (g :: u) 0 = g := rfl
  rw [er] at p0 p1
  obtain ⟨eb, eo, rfl⟩ : ∃ b o, ad = ⟨b, o, none⟩ := by
    obtain ⟨b, o, e3⟩ := spot_none h0
    cases ad with
    | mk b' o' v' =>
      unfold Addr.add at e3
      cases v' with
      | none => exact ⟨b', o', rfl⟩
      | some v' => simp at e3
  obtain ⟨lb, lo, rfl⟩ : ∃ b o, ad2 = ⟨b, o, none⟩ := by
    obtain ⟨b, o, e3⟩ := spot_none p0
    cases ad2 with
    | mk b' o' v' =>
      unfold Addr.add at e3
      cases v' with
      | none => exact ⟨b', o', rfl⟩
      | some v' => simp at e3
  subst e e2
  have z : (0 : Int).toNat * 3 = 0 := rfl
  rw [z, add_zero_] at p0 p1
  rw [add_zero_] at h1 h3
  exact ⟨eb, eo, lb, lo, c3, rfl, h3, p0, p1, h1⟩
theorem rows_far {W : World} {v : Value} {rl : List Row_} {s b : Nat} (h : Kd.R k49 49 W b (fun _ => True) v rl) (o : Obj) (hb : s ≤ b) : Kd.R k49 49 (W.alloc o) s (fun k => k ≠ W.heap.size) v rl :=
  Kd.R_mono (Kd.R_lower (Kd.R_below (Kd.R_bound h) (below_alloc (Below.refl _ _) o)) hb) (fun _ hk => Nat.ne_of_lt hk.2.2.1)
theorem rows_after {W W' : World} {o : Obj} {v : Value} {rl : List Row_} {s : Nat} (hg : s ≤ W'.heap.size) (h : Kd.R k49 49 W (W'.alloc o).heap.size (fun _ => True) v rl) : Kd.R k49 49 W s (fun k => k ≠ W'.heap.size) v rl := by
  have e : (W'.alloc o).heap.size = W'.heap.size + 1 := by simp
  rw [e] at h
  exact Kd.R_mono (Kd.R_lower (Kd.R_bound h) (by omega)) (fun _ hk => by have := hk.2.1; omega)
theorem set6 {W : World} {g t : Nat} {o0 o1 o2 o3 o4 o5 : Value} (h : W.heap[g]? = some (.cells #[o0, o1, o2, o3, o4, o5] t (0, 0))) (v0 v1 v2 v3 v4 v5 : Value) :
    W.setRow g #[v0, v1, v2, v3, v4, v5] = (((((W.setCell ⟨g, 0, none⟩ v0).setCell ⟨g, 1, none⟩ v1).setCell ⟨g, 2, none⟩ v2).setCell ⟨g, 3, none⟩ v3).setCell ⟨g, 4, none⟩ v4).setCell ⟨g, 5, none⟩ v5 := by
  have e0 := setCell_eq_setRow W g 0 _ t (0, 0) v0 h
  have h0 := setRow_heap W g _ (#[v0, o1, o2, o3, o4, o5]) t (0, 0) h
  have e1 := setCell_eq_setRow (W.setRow g #[v0, o1, o2, o3, o4, o5]) g 1 _ t (0, 0) v1 h0
  have h1 := setRow_heap W g _ (#[v0, v1, o2, o3, o4, o5]) t (0, 0) h
  have e2 := setCell_eq_setRow (W.setRow g #[v0, v1, o2, o3, o4, o5]) g 2 _ t (0, 0) v2 h1
  have h2 := setRow_heap W g _ (#[v0, v1, v2, o3, o4, o5]) t (0, 0) h
  have e3 := setCell_eq_setRow (W.setRow g #[v0, v1, v2, o3, o4, o5]) g 3 _ t (0, 0) v3 h2
  have h3 := setRow_heap W g _ (#[v0, v1, v2, v3, o4, o5]) t (0, 0) h
  have e4 := setCell_eq_setRow (W.setRow g #[v0, v1, v2, v3, o4, o5]) g 4 _ t (0, 0) v4 h3
  have h4 := setRow_heap W g _ (#[v0, v1, v2, v3, v4, o5]) t (0, 0) h
  have e5 := setCell_eq_setRow (W.setRow g #[v0, v1, v2, v3, v4, o5]) g 5 _ t (0, 0) v5 h4
  simp only [List.setIfInBounds_toArray, List.set_cons_zero, List.set_cons_succ, setRow_setRow] at e0 e1 e2 e3 e4 e5
  rw [e0, e1, e2, e3, e4, e5]
theorem rows_set {W : World} {g t s : Nat} {old : Array Value} {v : Value} {rl : List Row_} {o0 o1 o2 o3 o4 o5 : Value} (hold : old = #[o0, o1, o2, o3, o4, o5]) (h : W.heap[g]? = some (.cells old t (0, 0))) (hR : Kd.R k49 49 W s (fun k => k ≠ g) v rl) (v0 v1 v2 v3 v4 v5 : Value) :
    Kd.R k49 49 (W.setRow g #[v0, v1, v2, v3, v4, v5]) s (fun k => k ≠ g) v rl := by
  subst hold
  rw [set6 h]
  exact Kd.R_far (p := ⟨g, 5, none⟩) (Kd.R_far (p := ⟨g, 4, none⟩) (Kd.R_far (p := ⟨g, 3, none⟩) (Kd.R_far (p := ⟨g, 2, none⟩) (Kd.R_far (p := ⟨g, 1, none⟩) (Kd.R_far (p := ⟨g, 0, none⟩) hR (fun _ hk => hk) v0) (fun _ hk => hk) v1) (fun _ hk => hk) v2) (fun _ hk => hk) v3) (fun _ hk => hk) v4) (fun _ hk => hk) v5
theorem alloc_step {P : Program} {ops : Array Oper} {Q : Exit → Act → World → Prop} {Kc : Act → World → Prop} {o : Oper} {a : Act} {W : World} {e : Nat} {cs : Array Value} (hw : Region.wanted o (yielded ops a.tmps) = true)
    (hrun : (execOp a.eval o).run P W = .ok (.value (.pointer (some ⟨W.heap.size, 0, none⟩))) (W.alloc (.cells cs e)))
    (h : Kc (a.put o.dst (.pointer (some ⟨W.heap.size, 0, none⟩))) (W.alloc (.cells cs e))) : if Region.wanted o (yielded ops a.tmps) = true then Oper.wp P o a W Kc Q else Kc (a.put o.dst undef) W :=
  event_step hw hrun h
theorem store_row_step {P : Program} {ops : Array Oper} {Q : Exit → Act → World → Prop} {K : Act → World → Prop} {o : Oper} {a : Act} {W : World} (hw : Region.wanted o (yielded ops a.tmps) = true) (hN : o.dst = none) {ty : TypeId} {x y : Operand} (ho : o.op = .store ty x y)
    (g : Nat) (hx : a.eval x = .pointer (some ⟨g, 0, none⟩)) (cells : Array Value) (hy : a.eval y = .agg cells) {t : TypeId} {old : Array Value} (hg : W.heap[g]? = some (.cells old t (0, 0))) (hi : (P.info? ty).map (·.size) = some cells.size)
    (hold : old.size = cells.size) (h1 : cells.all (·.oneCell') = true) (h : K a (W.setRow g cells)) : if Region.wanted o (yielded ops a.tmps) = true then Oper.wp P o a W K Q else K (a.put none undef) W := by
  refine skip_ hw hN ?_ h
  unfold execOp
  simp [ho, hx, hy, Instr.storeAt, Instr.sureAddr, run_storeVar_row W g t ty old cells hg hi hold h1]
theorem checks_slip {w : World} {who asset : ByteArray} {day op : Int} {A : Option Addr} {n c : Nat} {cl : Int} {g : Nat} (h : w.heap[g]? = some (.cells #[.string who, .string asset, .int .u64 day, .int .i64 op, .slice A n c, .int .i64 cl] 28 (0, 0))) :
    w.cell? ⟨g, 0, none⟩ = some (.string who) ∧ w.cell? ⟨g, 1, none⟩ = some (.string asset) ∧ w.cell? ⟨g, 2, none⟩ = some (.int .u64 day) ∧ w.cell? ⟨g, 3, none⟩ = some (.int .i64 op) ∧ w.cell? ⟨g, 4, none⟩ = some (.slice A n c) ∧ w.cell? ⟨g, 5, none⟩ = some (.int .i64 cl) :=
  ⟨(blk_cell h 0).trans rfl, (blk_cell h 1).trans rfl, (blk_cell h 2).trans rfl, (blk_cell h 3).trans rfl, (blk_cell h 4).trans rfl, (blk_cell h 5).trans rfl⟩
/-- What a made statement is. -/
structure Made (l : List Ent_) (who asset : ByteArray) (day : Int) (r : ByteArray × ByteArray × Int × Int × List Row_ × Int × Int) : Prop where
  is : (r.2.2.2.2.2.2 = 0 ∧ r.1 = who ∧ r.2.1 = asset ∧ r.2.2.1 = day ∧ r.2.2.2.2.1 = rowsOf l who asset day ∧ in64 r.2.2.2.1 ∧ in64 r.2.2.2.2.2.1 ∧ r.2.2.2.1 + sumI (amtsL r.2.2.2.2.1) = r.2.2.2.2.2.1) ∨ r.2.2.2.2.2.2 = 10
theorem made (l : List Ent_) (who asset : ByteArray) (day : Int) : Made l who asset day (makeOf l who asset day) := by
  refine ⟨?_⟩
  unfold makeOf closeOf
  split
  · rename_i h1
    split
    · rename_i h2
      exact .inl ⟨rfl, rfl, rfl, rfl, rfl, h1, h2, rfl⟩
    · exact .inr rfl
  · exact .inr rfl
/-- The rows of entries that may be may be. -/
theorem rows_ok {l : List Ent_} (h : ∀ x ∈ l, checkB x.f2 x.f3 = true) (who asset : ByteArray) (day : Int) : (rowsOf l who asset day).all rowOk = true := by
  rw [List.all_eq_true]
  intro r hr
  obtain ⟨x, hx, _, _, e1, g, hg, _, _, e2⟩ := rowsOf_mem who asset day l r hr
  have hc := check_get (h x hx)
  have hl := hc.2.2.2.1 g hg
  unfold legOk at hl
  simp only [Bool.and_eq_true, decide_eq_true_eq] at hl
  unfold rowOk
  rw [e1, e2, hc.1, decide_eq_true hl.2]
  rfl
theorem rows_one {x : Ent_} {t : List Ent_} {g : Leg_} {u : List Leg_} (hx : x.f3 = g :: u) : 1 ≤ (rowsOf (x :: t) g.f0 g.f1 x.f1).length := by
  show 1 ≤ ((if x.f1 = x.f1 then rowsIn x.f0 x.f2 x.f3 g.f0 g.f1 else []) ++ rowsOf t g.f0 g.f1 x.f1).length
  rw [if_pos rfl, hx, rowsIn_hit rfl rfl]
  simp
def sck11_T : Bool × List (List Nat × List Nat) := (true, [([], []), ([], []), ([1], [1]), ([2], [2]), ([3], [3]), ([4], [4]), ([5], [5]), ([6], [6]), ([], []), ([8], [8]), ([9], [9]), ([10], [10]), ([11], [11]), ([12], [12]), ([13], [13]), ([], []), ([15], [15]), ([16], [16]), ([17], [17]), ([0, 7, 14, 18], [0, 7, 14, 18]), ([19], [19]), ([20], [20]), ([20], [20]), ([], []), ([23, 21, 19, 0, 1, 2, 3, 4, 5, 6, 7, 8, 9, 10, 11, 12, 13, 14, 15, 16, 17, 18, 19, 20, 21, 23], [21, 23]), ([22, 24, 0, 1, 2, 3, 4, 5, 6, 7, 8, 9, 10, 11, 12, 13, 14, 15, 16, 17, 18, 19, 20, 21, 22, 23, 24], [22])])
def sck11_B : List Nat := [0, 0, 2, 6, 14, 30, 62, 126, 0, 256, 768, 1792, 3840, 7936, 16128, 0, 32768, 98304, 229376, 524287, 1048575, 2097151, 2097151, 0, 12582911, 33554431]
theorem sck11_tab : rtab .any (opsOf Tryd.f7 11) = sck11_T := by kernel_rfl
theorem sck11_bits : waitsOk sck11_T.2 sck11_B = true := by kernel_rfl
set_option maxHeartbeats 8000000 in
set_option maxRecDepth 100000 in
set_option linter.unusedSimpArgs false in
set_option linter.unusedVariables false in
theorem slipChecks_true (w : World) (hG : Glob w) (A : Option Addr) (c : Nat) (l : List Ent_) (hg : ∀ a ∈ l, goodEnt a) (_hl : l.length * Tryd.prog.bytesOf 45 ≤ lim) (hr : Kd.C k45 w A l.length l) (hc : l.length ≤ c) (who : ByteArray) (hw : who.size ≤ lim) (asset : ByteArray) (ha : asset.size ≤ lim) (day : Int) (hd : (Lit.int .u64 day).wf = true) :
    Calls Tryd.prog 7 #[.slice A l.length c, .string who, .string asset, .int .u64 day] w fun e w' => e = .returned (.bool true) ∧ Below w.heap.size w w' := by
  have HA : Hid (∀ W, Glob W → Calls Tryd.prog 8 #[] W fun e w' => e = .returned (.bool true) ∧ Below W.heap.size W w') := Lib.hid fun W hW => cambistlaw19_awake.calls true W hW rfl
  have HG := Lib.hid hG; have HR := Lib.hid hr; have HC := Lib.hid hc; have HGD := Lib.hid hg
  have HFW : Hid (∀ W, Below w.heap.size w W → Calls Tryd.prog 9 #[.slice A l.length c] W fun e w' => e = .returned (.bool (fewS l)) ∧ Below W.heap.size W w') := Lib.hid fun W hb => by
    obtain ⟨k, hk⟩ := Ev.rounds (few_ev l)
    exact (cambistlaw19_few.calls k A c l _ W (HG.out.below hb) (Kd.C_below HR.out hb) HC.out hk).mono fun e w' ⟨he, hd⟩ => ⟨he, hd.below⟩
  clear hG hr hc hg _hl
  go_enter Tryd.func7, Tryd.ntmps7
  go_upto_region 2 with (go_at_call 8; refine (HA.out _ HG.out).mono ?_; rintro e w2 ⟨rfl, hb⟩; have HB2 := Lib.hid hb; clear hb)
  clear HA
  have HFW2 := Lib.hid (HFW.out _ HB2.out)
  clear HFW
  cases hf : fewS l with
  | false =>
    rw [hf] at HFW2
    go_wp2_with (go_at_call 9; refine (HFW2.out).mono ?_; rintro e w3 ⟨rfl, hb⟩; have HB3 := Lib.hid (below_step HB2.out hb); clear hb)
    go_ret
    exact ⟨rfl, HB3.out⟩
  | true =>
    rw [hf] at HFW2
    have HF := Lib.hid hf
    have H64 := Lib.hid (checks_64 HGD.out)
    clear hf
    obtain ⟨n, hn⟩ : ∃ n, l.length = n := ⟨_, rfl⟩
    have HN := Lib.hid hn
    have hnl : n ≤ 1000 := by have := (few_get HF.out).1; omega
    rw [hn] at HFW2 ⊢
    clear hn
    go_wp2_with (go_at_call 9; refine (HFW2.out).mono ?_; rintro e w3 ⟨rfl, hb⟩; have HB3 := Lib.hid (below_step HB2.out hb); clear hb)
    clear HFW2 HB2
    go_loopw [10] (fun i wr => ∃ k : Nat, k ≤ n ∧ i = .int .i64 k ∧ Hid (∀ x ∈ l.take k, checkB x.f2 x.f3 = true) ∧ Hid (Below w.heap.size w wr)) (fun i _ => n - (intOf i).toNat)
    case atStart => exact ⟨0, Nat.zero_le _, rfl, Lib.hid (fun x hx => by simp at hx), HB3⟩
    case round =>
      clear HB3
      obtain ⟨k, hk, rfl, HCK, HBW⟩ := hrel
      obtain ⟨wo, rfl⟩ : ∃ wo : World, wo = wr := ⟨_, rfl⟩
      by_cases hlt : k < n
      · have hll : k < l.length := by rw [HN.out]; exact hlt
        obtain ⟨ad, A3, c3, had, q0, q1, q2, q3, h4, h5⟩ := ent_cells (Kd.C_below HR.out HBW.out) k hll
        have hgx := HGD.out _ (List.getElem_mem hll)
        obtain ⟨x, hx⟩ : ∃ x, l[k] = x := ⟨_, rfl⟩
        rw [hx] at q0 q1 q2 q3 h4 h5 hgx
        subst had
        have HX := Lib.hid hx
        have HLL := Lib.hid hll
        have hn1 : decide ((k : Int) < (n : Int)) = true := decide_eq_true (by omega)
        have HJC : Hid (Calls Tryd.prog 18 #[.agg #[.int .u64 x.f0, .int .u64 x.f1, .string x.f2, .slice A3 x.f3.length c3]] wo fun e w' => e = .returned (.int .i64 (chkOf (checkB x.f2 x.f3))) ∧ Below wo.heap.size wo w') :=
          Lib.hid (journal_Check.calls x.f0 x.f1 x.f2 A3 c3 x.f3 _ wo (HG.out.below HBW.out) h5 h4 (check_of hgx))
        clear hx h4 h5 hgx
        cases hcb : checkB x.f2 x.f3 with
        | true =>
          rw [hcb] at HJC
          have HCB := Lib.hid hcb
          clear hcb
          have z : chkOf true = 0 := rfl
          rw [z] at HJC
          clear z
          go_wp2_with (go_at_call 18; refine (HJC.out).mono ?_; rintro e w5 ⟨rfl, hb⟩; have HB5 := Lib.hid (below_step HBW.out hb); clear hb q0 q1 q2 q3)
          go_roundw
          case rel =>
            refine ⟨k + 1, by omega, by go_num, Lib.hid (fun y hy => ?_), HB5⟩
            rw [List.take_succ_eq_append_getElem HLL.out] at hy
            rcases List.mem_append.1 hy with hy | hy
            · exact HCK.out y hy
            · rw [List.mem_singleton.1 hy, HX.out]
              exact HCB.out
          case measure => simp [intOf]; omega
        | false =>
          rw [hcb] at HJC
          clear hcb
          have z : chkOf false = 120 := rfl
          rw [z] at HJC
          clear z
          go_wp2_with (go_at_call 18; refine (HJC.out).mono ?_; rintro e w5 ⟨rfl, hb⟩; have HB5 := Lib.hid (below_step HBW.out hb); clear hb q0 q1 q2 q3)
          go_ret
          exact ⟨rfl, HB5.out⟩
      · have hke : k = n := by omega
        subst hke
        have hn1 : decide ((k : Int) < (k : Int)) = false := decide_eq_false (by omega)
        have hca : ∀ x ∈ l, checkB x.f2 x.f3 = true := by
          have h := HCK.out
          have e : l.take k = l := by rw [← HN.out, List.take_length]
          rw [e] at h
          exact h
        clear HCK
        cases l with
        | nil =>
          have hk0 : k = 0 := HN.out.symm
          subst hk0
          go_wp2
          go_ret
          exact ⟨rfl, HBW.out⟩
        | cons x t =>
          have hcx := check_get (hca x (List.mem_cons_self ..))
          obtain ⟨gg, u, hxu⟩ : ∃ g u, x.f3 = g :: u := by
            cases hq : x.f3 with
            | nil => rw [hq] at hcx; exact absurd hcx.2.1 (by simp)
            | cons g u => exact ⟨g, u, rfl⟩
          obtain ⟨eb, eo, lb, lo, c3, hA, s0, s1, s2, s3⟩ := first_cells HR.out hxu
          subst hA
          have hm2 : 2 ≤ (gg :: u).length := by rw [← hxu]; exact hcx.2.1
          obtain ⟨m, hm⟩ : ∃ m, (gg :: u).length = m := ⟨_, rfl⟩
          rw [hm] at s0 hm2
          clear hm
          have hk1 : 1 ≤ k := by have := HN.out; simp only [List.length_cons] at this; omega
          have HRO : Hid (1 ≤ (rowsOf (x :: t) gg.f0 gg.f1 x.f1).length) := Lib.hid (rows_one hxu)
          have HLG : Hid (isWho gg.f0 = true ∧ isPart isUp 6 gg.f1 = true) := Lib.hid (by
            have h := hcx.2.2.2.1 gg (by rw [hxu]; exact List.mem_cons_self ..)
            unfold legOk at h
            simp only [Bool.and_eq_true] at h
            exact ⟨h.1.1, h.1.2⟩)
          have HRK := Lib.hid (fun a b d => rows_ok hca a b d)
          obtain ⟨xw, hxw⟩ : ∃ s, gg.f0 = s := ⟨_, rfl⟩
          obtain ⟨xa, hxa⟩ : ∃ s, gg.f1 = s := ⟨_, rfl⟩
          obtain ⟨xd, hxd⟩ : ∃ s, x.f1 = s := ⟨_, rfl⟩
          rw [hxw] at s1 HRO HLG
          rw [hxa] at s2 HRO HLG
          rw [hxd] at s3 HRO
          clear hxw hxa hxd hcx hxu hca
          generalize x :: t = l at *
          have HS4 : Hid (∀ W, Below w.heap.size w W → W.cell? ⟨eb, eo + 3, none⟩ = some (.slice (some ⟨lb, lo, none⟩) m c3) ∧ W.cell? ⟨lb, lo, none⟩ = some (.string xw) ∧ W.cell? ⟨lb, lo + 1, none⟩ = some (.string xa) ∧ W.cell? ⟨eb, eo + 1, none⟩ = some (.int .u64 xd)) :=
            Lib.hid fun W hb => ⟨cell_below hb s0, cell_below hb s1, cell_below hb s2, cell_below hb s3⟩
          clear s0 s1 s2 s3
          obtain ⟨km, hkm⟩ := Ev.rounds (make_ev l xw xa xd HF.out H64.out)
          have HMD := Lib.hid (made l xw xa xd)
          have hrn : (makeOf l xw xa xd).2.2.2.2.1.length ≤ 1000000 := by
            have h := rowsOf_len xw xa xd l (fun x hx => ((few_get HF.out).2 x hx).1)
            have := (few_get HF.out).1
            unfold makeOf closeOf
            split
            · split
              · show (rowsOf l xw xa xd).length ≤ _
                omega
              · simp
            · simp
          generalize makeOf l xw xa xd = rr at hkm HMD hrn
          obtain ⟨rw_, ra, rd, ro, rl, rc, re⟩ := rr
          obtain ⟨nr, hnr⟩ : ∃ n, rl.length = n := ⟨_, rfl⟩
          have HNR := Lib.hid hnr
          have HMK : Hid (∀ W, Below w.heap.size w W → Calls Tryd.prog 10 #[.slice (some ⟨eb, eo, none⟩) k c, .string xw, .string xa, .int .u64 xd] W fun e w' => ∃ (A : Option Addr) (c : Nat), e = .returned (.tuple #[.agg #[.string rw_, .string ra, .int .u64 rd, .int .i64 ro, .slice A nr c, .int .i64 rc], .int .i64 re]) ∧ Kd.R k49 49 w' W.heap.size (fun _ => True) (.slice A nr c) rl ∧ Below W.heap.size W w') := Lib.hid fun W hb => by
            have h := slip_Make.calls km (some ⟨eb, eo, none⟩) c l xw xa xd rw_ ra rd ro rl rc re W (HG.out.below hb) (Kd.C_below HR.out hb) HC.out hkm
            rw [HN.out] at h
            refine h.mono ?_
            rintro e w' ⟨v, he, hR, hb2⟩
            obtain ⟨A, c, hv⟩ := Kd.R_slice hR
            subst hv
            rw [HNR.out] at he hR
            exact ⟨A, c, he, hR, hb2⟩
          obtain ⟨kn, hkn⟩ := Ev.rounds (make_ev l who asset day HF.out H64.out)
          have HME := Lib.hid (made l who asset day)
          generalize makeOf l who asset day = rt at hkn HME
          obtain ⟨tw, ta, td, to_, tl, tc, te⟩ := rt
          have HMN : Hid (∀ W, Below w.heap.size w W → Calls Tryd.prog 10 #[.slice (some ⟨eb, eo, none⟩) k c, .string who, .string asset, .int .u64 day] W fun e w' => ∃ (A : Option Addr) (c n : Nat), e = .returned (.tuple #[.agg #[.string tw, .string ta, .int .u64 td, .int .i64 to_, .slice A n c, .int .i64 tc], .int .i64 te]) ∧ Below W.heap.size W w') := Lib.hid fun W hb => by
            have h := slip_Make.calls kn (some ⟨eb, eo, none⟩) c l who asset day tw ta td to_ tl tc te W (HG.out.below hb) (Kd.C_below HR.out hb) HC.out hkn
            rw [HN.out] at h
            refine h.mono ?_
            rintro e w' ⟨v, he, hR, hb2⟩
            obtain ⟨A, c, hv⟩ := Kd.R_slice hR
            subst hv
            exact ⟨A, c, _, he, hb2⟩
          have HRN : Hid (nr ≤ 1000000) := Lib.hid (by rw [← hnr]; exact hrn)
          clear hkm hkn hnr hrn
          have m1 : ¬ (k : Int) = 0 := by omega
          have m2 : ((k : Int) == 0) = false := beq_eq_false_iff_ne.2 m1
          have m3 : ¬ k = 0 := by omega
          have m4 : (k == 0) = false := beq_eq_false_iff_ne.2 m3
          have m5 : ¬ (m : Int) = 0 := by omega
          have m6 : ((m : Int) == 0) = false := beq_eq_false_iff_ne.2 m5
          have m7 : ¬ m = 0 := by omega
          have m8 : (m == 0) = false := beq_eq_false_iff_ne.2 m7
          have m9 : 0 < k := by omega
          have m10 : 0 < m := by omega
          obtain ⟨s0, s1, s2, s3⟩ := HS4.out _ HBW.out
          go_upto_region 11 with (fail)
          clear s0 s1 s2 s3 m1 m2 m3 m4 m5 m6 m7 m8
          generalize k = n at *
          refine start_ (n := 26) (S := fun W_ => W_.cell? ⟨eb, eo + 3, none⟩ = some (.slice (some ⟨lb, lo, none⟩) m c3) ∧ W_.cell? ⟨lb, lo, none⟩ = some (.string xw) ∧ W_.cell? ⟨lb, lo + 1, none⟩ = some (.string xa) ∧ W_.cell? ⟨eb, eo + 1, none⟩ = some (.int .u64 xd)) (ds := [24, 25]) #[false, false, false, false, false, false, false, false, false, false, false, false, false, false, false, false, false, false, false, false, false, false, false, false, false, false] (by kernel_rfl) rfl rfl (HS4.out _ (below_step HBW.out (below_drew1 (Below.refl _ _)))) (fun hHeld => ?_); refine with_tabW sck11_tab sck11_bits (fun HT_ HW_ => ?_)
          have n0_ := Lib.hid (below_step HBW.out (below_drew1 (Below.refl _ _))); clear HBW; have HBW := n0_; clear n0_
          generalize wo.drew = w7 at HBW hHeld ⊢
          have HG7 : Hid (w.heap.size ≤ w7.heap.size) := Lib.hid HBW.out.size
          (refine pure_ (i := 0) (N := some 47) (v := ?_) (a' := ?_) (fl_ 26 1) rfl rfl (any_of HT_.out (by kernel_rfl)) (fun _ _ _ h => h) (Or.inl ⟨by rfl, ?_⟩) ?_ ?_; rotate_left; (· (intro w'; go_simp; with_reducible rfl)); rotate_left; (· (simp only [Act.put, List.setIfInBounds_toArray, List.set_cons_zero, List.set_cons_succ, i64_w, i32_w]; rfl)))
          (refine pure_ (i := 1) (N := some 48) (v := ?_) (a' := ?_) (fl_ 26 3) rfl rfl (any_of HT_.out (by kernel_rfl)) (fun _ _ _ h => h) (Or.inl ⟨by rfl, ?_⟩) ?_ ?_; rotate_left; (· (intro w'; go_simp; with_reducible rfl)); rotate_left; (· (simp only [Act.put, List.setIfInBounds_toArray, List.set_cons_zero, List.set_cons_succ, i64_w, i32_w]; rfl)))
          (refine pure_ (i := 2) (N := some 49) (v := ?_) (a' := ?_) (fl_ 26 7) rfl rfl (any_of HT_.out (by kernel_rfl)) (fun _ _ _ h => h) (Or.inl ⟨by rfl, ?_⟩) ?_ ?_; rotate_left; (· (intro w'; go_simp; with_reducible rfl)); rotate_left; (· (simp only [Act.put, List.setIfInBounds_toArray, List.set_cons_zero, List.set_cons_succ, i64_w, i32_w]; rfl)))
          (refine pure_ (i := 3) (N := some 50) (v := ?_) (a' := ?_) (fl_ 26 15) rfl rfl (any_of HT_.out (by kernel_rfl)) (fun _ _ _ h => h) (Or.inl ⟨by rfl, ?_⟩) ?_ ?_; rotate_left; (· (intro w'; go_simp; with_reducible rfl)); rotate_left; (· (simp only [Act.put, List.setIfInBounds_toArray, List.set_cons_zero, List.set_cons_succ, i64_w, i32_w]; rfl)))
          (refine pure_ (i := 8) (N := some 55) (v := ?_) (a' := ?_) (fl_ 26 271) rfl rfl (any_of HT_.out (by kernel_rfl)) (fun _ _ _ h => h) (Or.inl ⟨by rfl, ?_⟩) ?_ ?_; rotate_left; (· (intro w'; go_simp; with_reducible rfl)); rotate_left; (· (simp only [Act.put, List.setIfInBounds_toArray, List.set_cons_zero, List.set_cons_succ, i64_w, i32_w]; rfl)))
          (refine pure_ (i := 9) (N := some 56) (v := ?_) (a' := ?_) (fl_ 26 783) rfl rfl (any_of HT_.out (by kernel_rfl)) (fun _ _ _ h => h) (Or.inl ⟨by rfl, ?_⟩) ?_ ?_; rotate_left; (· (intro w'; go_simp; with_reducible rfl)); rotate_left; (· (simp only [Act.put, List.setIfInBounds_toArray, List.set_cons_zero, List.set_cons_succ, i64_w, i32_w]; rfl)))
          (refine pure_ (i := 10) (N := some 57) (v := ?_) (a' := ?_) (fl_ 26 1807) rfl rfl (any_of HT_.out (by kernel_rfl)) (fun _ _ _ h => h) (Or.inl ⟨by rfl, ?_⟩) ?_ ?_; rotate_left; (· (intro w'; go_simp; with_reducible rfl)); rotate_left; (· (simp only [Act.put, List.setIfInBounds_toArray, List.set_cons_zero, List.set_cons_succ, i64_w, i32_w]; rfl)))
          (refine pure_ (i := 15) (N := some 62) (v := ?_) (a' := ?_) (fl_ 26 34575) rfl rfl (any_of HT_.out (by kernel_rfl)) (fun _ _ _ h => h) (Or.inl ⟨by rfl, ?_⟩) ?_ ?_; rotate_left; (· (intro w'; go_simp; with_reducible rfl)); rotate_left; (· (simp only [Act.put, List.setIfInBounds_toArray, List.set_cons_zero, List.set_cons_succ, i64_w, i32_w]; rfl)))
          (refine pure_ (i := 16) (N := some 63) (v := ?_) (a' := ?_) (fl_ 26 100111) rfl rfl (any_of HT_.out (by kernel_rfl)) (fun _ _ _ h => h) (Or.inl ⟨by rfl, ?_⟩) ?_ ?_; rotate_left; (· (intro w'; go_simp; with_reducible rfl)); rotate_left; (· (simp only [Act.put, List.setIfInBounds_toArray, List.set_cons_zero, List.set_cons_succ, i64_w, i32_w]; rfl)))
          (refine pure_ (i := 17) (N := some 64) (v := ?_) (a' := ?_) (fl_ 26 231183) rfl rfl (any_of HT_.out (by kernel_rfl)) (fun _ _ _ h => h) (Or.inl ⟨by rfl, ?_⟩) ?_ ?_; rotate_left; (· (intro w'; go_simp; with_reducible rfl)); rotate_left; (· (simp only [Act.put, List.setIfInBounds_toArray, List.set_cons_zero, List.set_cons_succ, i64_w, i32_w]; rfl)))
          (refine take_ (i := 4) (N := some 51) (v := ?_) (a' := ?_) (fl_ 26 231199) rfl rfl (take_ofW HT_.out HW_.out (by kernel_rfl)) (fun _ _ _ h => h) (Or.inl ⟨by rfl, ?_⟩) hHeld ?_ ?_; rotate_left; (· (rintro w' ⟨s0, s1, s2, s3⟩; go_simp; with_reducible rfl)); rotate_left; (· (simp only [Act.put, List.setIfInBounds_toArray, List.set_cons_zero, List.set_cons_succ, i64_w, i32_w]; rfl)))
          (refine pure_ (i := 5) (N := some 52) (v := ?_) (a' := ?_) (fl_ 26 231231) rfl rfl (any_of HT_.out (by kernel_rfl)) (fun _ _ _ h => h) (Or.inl ⟨by rfl, ?_⟩) ?_ ?_; rotate_left; (· (intro w'; go_simp; with_reducible rfl)); rotate_left; (· (simp only [Act.put, List.setIfInBounds_toArray, List.set_cons_zero, List.set_cons_succ, i64_w, i32_w]; rfl)))
          (refine pure_ (i := 6) (N := some 53) (v := ?_) (a' := ?_) (fl_ 26 231295) rfl rfl (any_of HT_.out (by kernel_rfl)) (fun _ _ _ h => h) (Or.inl ⟨by rfl, ?_⟩) ?_ ?_; rotate_left; (· (intro w'; go_simp; with_reducible rfl)); rotate_left; (· (simp only [Act.put, List.setIfInBounds_toArray, List.set_cons_zero, List.set_cons_succ, i64_w, i32_w]; rfl)))
          (refine take_ (i := 7) (N := some 54) (v := ?_) (a' := ?_) (fl_ 26 231423) rfl rfl (take_ofW HT_.out HW_.out (by kernel_rfl)) (fun _ _ _ h => h) (Or.inl ⟨by rfl, ?_⟩) hHeld ?_ ?_; rotate_left; (· (rintro w' ⟨s0, s1, s2, s3⟩; go_simp; with_reducible rfl)); rotate_left; (· (simp only [Act.put, List.setIfInBounds_toArray, List.set_cons_zero, List.set_cons_succ, i64_w, i32_w]; rfl)))
          (refine take_ (i := 11) (N := some 58) (v := ?_) (a' := ?_) (fl_ 26 233471) rfl rfl (take_ofW HT_.out HW_.out (by kernel_rfl)) (fun _ _ _ h => h) (Or.inl ⟨by rfl, ?_⟩) hHeld ?_ ?_; rotate_left; (· (rintro w' ⟨s0, s1, s2, s3⟩; go_simp; with_reducible rfl)); rotate_left; (· (simp only [Act.put, List.setIfInBounds_toArray, List.set_cons_zero, List.set_cons_succ, i64_w, i32_w]; rfl)))
          (refine pure_ (i := 12) (N := some 59) (v := ?_) (a' := ?_) (fl_ 26 237567) rfl rfl (any_of HT_.out (by kernel_rfl)) (fun _ _ _ h => h) (Or.inl ⟨by rfl, ?_⟩) ?_ ?_; rotate_left; (· (intro w'; go_simp; with_reducible rfl)); rotate_left; (· (simp only [Act.put, List.setIfInBounds_toArray, List.set_cons_zero, List.set_cons_succ, i64_w, i32_w]; rfl)))
          (refine pure_ (i := 13) (N := some 60) (v := ?_) (a' := ?_) (fl_ 26 245759) rfl rfl (any_of HT_.out (by kernel_rfl)) (fun _ _ _ h => h) (Or.inl ⟨by rfl, ?_⟩) ?_ ?_; rotate_left; (· (intro w'; go_simp; with_reducible rfl)); rotate_left; (· (simp only [Act.put, List.setIfInBounds_toArray, List.set_cons_zero, List.set_cons_succ, i64_w, i32_w]; rfl)))
          (refine take_ (i := 14) (N := some 61) (v := ?_) (a' := ?_) (fl_ 26 262143) rfl rfl (take_ofW HT_.out HW_.out (by kernel_rfl)) (fun _ _ _ h => h) (Or.inl ⟨by rfl, ?_⟩) hHeld ?_ ?_; rotate_left; (· (rintro w' ⟨s0, s1, s2, s3⟩; go_simp; with_reducible rfl)); rotate_left; (· (simp only [Act.put, List.setIfInBounds_toArray, List.set_cons_zero, List.set_cons_succ, i64_w, i32_w]; rfl)))
          (refine take_ (i := 18) (N := some 65) (v := ?_) (a' := ?_) (fl_ 26 524287) rfl rfl (take_ofW HT_.out HW_.out (by kernel_rfl)) (fun _ _ _ h => h) (Or.inl ⟨by rfl, ?_⟩) hHeld ?_ ?_; rotate_left; (· (rintro w' ⟨s0, s1, s2, s3⟩; go_simp; with_reducible rfl)); rotate_left; (· (simp only [Act.put, List.setIfInBounds_toArray, List.set_cons_zero, List.set_cons_succ, i64_w, i32_w]; rfl)))
          refine join_ (σ := Nat × Option Addr × Nat) 2 (fl_ 26 16777215) (fun g2 => [(66, .tuple #[.agg #[.string rw_, .string ra, .int .u64 rd, .int .i64 ro, .slice g2.2.1 nr g2.2.2, .int .i64 rc], .int .i64 re]), (46, .tuple #[.agg #[.string rw_, .string ra, .int .u64 rd, .int .i64 ro, .slice g2.2.1 nr g2.2.2, .int .i64 rc], .int .i64 re]), (67, .agg #[.string rw_, .string ra, .int .u64 rd, .int .i64 ro, .slice g2.2.1 nr g2.2.2, .int .i64 rc]), (68, .int .i64 re), (11, .pointer (some ⟨g2.1, 0, none⟩))]) (fun g2 W => W.heap[g2.1]? = some (.cells #[.string ⟨#[]⟩, .string ⟨#[]⟩, .int .u64 0, .int .i64 0, .slice none 0 0, .int .i64 0] 28 (0, 0)) ∧ w.heap.size ≤ g2.1 ∧ Below w.heap.size w W ∧ Kd.R k49 49 W w.heap.size (fun k => k ≠ g2.1) (.slice g2.2.1 nr g2.2.2) rl) ?_ ?_
          rotate_left
          · intro hCont
            refine two_ (i := 19) (j := 23) (Ni := some 66) (Nj := some 11) (fl_ 26 1048575) (fl_ 26 8912895) rfl rfl rfl rfl (two_of HT_.out (by kernel_rfl)) (by decide) (by decide) (fun K hK => ?_) (fun K hK => ?_)
            · skip
              refine goes_ Tryd.func10 (by kernel_rfl) rfl #[.slice (some ⟨eb, eo, none⟩) n c, .string xw, .string xa, .int .u64 xd] (by rfl) rfl rfl (by (try simp only [List.map_toArray, List.map_cons, List.map_nil]); first | done | rfl) ?_
              refine (HMK.out _ HBW.out).mono ?_
              rintro e w8 ⟨Am, cm, rfl, hRm, hb⟩
              refine ⟨_, rfl, ?_⟩
              have HRM := Lib.hid hRm; clear hRm
              try (have n1_ := Lib.hid (blk_below HZB.out hb); clear HZB; have HZB := n1_; clear n1_)
              try (have n1_ := Lib.hid (rows_after HGE.out HRM.out); clear HRM; have HRM := n1_; clear n1_)
              have n0_ := Lib.hid (below_step HBW.out hb); clear HBW; have HBW := n0_; clear n0_; clear hb
              refine hK.out _ _ (HS4.out _ HBW.out) (fun hHeld => ?_)
              clear hK K
              refine norm_ (a' := ?_) ?_ ?_; rotate_left; (· (show Act.put _ (some 66) _ = _; simp only [Act.put, List.setIfInBounds_toArray, List.set_cons_zero, List.set_cons_succ, i64_w, i32_w]; rfl))
              (refine pure_ (i := 20) (N := some 46) (v := ?_) (a' := ?_) (fl_ 26 2097151) rfl rfl (any_of HT_.out (by kernel_rfl)) (fun _ _ _ h => h) (Or.inl ⟨by rfl, ?_⟩) ?_ ?_; rotate_left; (· (intro w'; go_simp; with_reducible rfl)); rotate_left; (· (simp only [Act.put, List.setIfInBounds_toArray, List.set_cons_zero, List.set_cons_succ, i64_w, i32_w]; rfl)))
              (refine pure_ (i := 21) (N := some 67) (v := ?_) (a' := ?_) (fl_ 26 4194303) rfl rfl (any_of HT_.out (by kernel_rfl)) (fun _ _ _ h => h) (Or.inl ⟨by rfl, ?_⟩) ?_ ?_; rotate_left; (· (intro w'; go_simp; with_reducible rfl)); rotate_left; (· (simp only [Act.put, List.setIfInBounds_toArray, List.set_cons_zero, List.set_cons_succ, i64_w, i32_w]; rfl)))
              (refine pure_ (i := 22) (N := some 68) (v := ?_) (a' := ?_) (fl_ 26 8388607) rfl rfl (any_of HT_.out (by kernel_rfl)) (fun _ _ _ h => h) (Or.inl ⟨by rfl, ?_⟩) ?_ ?_; rotate_left; (· (intro w'; go_simp; with_reducible rfl)); rotate_left; (· (simp only [Act.put, List.setIfInBounds_toArray, List.set_cons_zero, List.set_cons_succ, i64_w, i32_w]; rfl)))
              refine one_ (i := 23) (N := some 11) (fl_ 26 16777215) rfl rfl (one_of HT_.out (by kernel_rfl)) (by decide) (fun K hK => ?_)
              refine alloc_step (by rfl) (cs := #[.string ⟨#[]⟩, .string ⟨#[]⟩, .int .u64 0, .int .i64 0, .slice none 0 0, .int .i64 0]) (e := 28) ?hr2 ?_
              case hr2 => first | (go_simp; done) | (go_simp; rfl)
              have HGE : Hid (w.heap.size ≤ w8.heap.size) := Lib.hid HBW.out.size
              have HZB := Lib.hid (heap_alloc_new w8 (.cells #[.string ⟨#[]⟩, .string ⟨#[]⟩, .int .u64 0, .int .i64 0, .slice none 0 0, .int .i64 0] 28))
              try (have n1_ := Lib.hid (rows_far HRM.out (.cells #[.string ⟨#[]⟩, .string ⟨#[]⟩, .int .u64 0, .int .i64 0, .slice none 0 0, .int .i64 0] 28) HG7.out); clear HRM; have HRM := n1_; clear n1_)
              have n0_ := Lib.hid (below_step HBW.out (below_alloc (Below.refl _ _) (.cells #[.string ⟨#[]⟩, .string ⟨#[]⟩, .int .u64 0, .int .i64 0, .slice none 0 0, .int .i64 0] 28))); clear HBW; have HBW := n0_; clear n0_
              refine hK.out _ _ (HS4.out _ HBW.out) (fun hHeld => ?_)
              clear hK K
              refine norm_ (a' := ?_) ?_ ?_; rotate_left; (· (show Act.put _ (some 11) _ = _; simp only [Act.put, List.setIfInBounds_toArray, List.set_cons_zero, List.set_cons_succ, i64_w, i32_w]; rfl))
              exact norm_ (by simp only [putAll, Act.put, List.setIfInBounds_toArray, List.set_cons_zero, List.set_cons_succ] <;> rfl) (hCont ⟨_, _, _⟩ _ ⟨HZB.out, HGE.out, HBW.out, HRM.out⟩)
            · skip
              refine alloc_step (by rfl) (cs := #[.string ⟨#[]⟩, .string ⟨#[]⟩, .int .u64 0, .int .i64 0, .slice none 0 0, .int .i64 0]) (e := 28) ?hr3 ?_
              case hr3 => first | (go_simp; done) | (go_simp; rfl)
              have HGE : Hid (w.heap.size ≤ w7.heap.size) := Lib.hid HBW.out.size
              have HZB := Lib.hid (heap_alloc_new w7 (.cells #[.string ⟨#[]⟩, .string ⟨#[]⟩, .int .u64 0, .int .i64 0, .slice none 0 0, .int .i64 0] 28))
              try (have n1_ := Lib.hid (rows_far HRM.out (.cells #[.string ⟨#[]⟩, .string ⟨#[]⟩, .int .u64 0, .int .i64 0, .slice none 0 0, .int .i64 0] 28) HG7.out); clear HRM; have HRM := n1_; clear n1_)
              have n0_ := Lib.hid (below_step HBW.out (below_alloc (Below.refl _ _) (.cells #[.string ⟨#[]⟩, .string ⟨#[]⟩, .int .u64 0, .int .i64 0, .slice none 0 0, .int .i64 0] 28))); clear HBW; have HBW := n0_; clear n0_
              refine hK.out _ _ (HS4.out _ HBW.out) (fun hHeld => ?_)
              clear hK K
              refine norm_ (a' := ?_) ?_ ?_; rotate_left; (· (show Act.put _ (some 11) _ = _; simp only [Act.put, List.setIfInBounds_toArray, List.set_cons_zero, List.set_cons_succ, i64_w, i32_w]; rfl))
              refine one_ (i := 19) (N := some 66) (fl_ 26 9437183) rfl rfl (one_of HT_.out (by kernel_rfl)) (by decide) (fun K hK => ?_)
              refine goes_ Tryd.func10 (by kernel_rfl) rfl #[.slice (some ⟨eb, eo, none⟩) n c, .string xw, .string xa, .int .u64 xd] (by rfl) rfl rfl (by (try simp only [List.map_toArray, List.map_cons, List.map_nil]); first | done | rfl) ?_
              refine (HMK.out _ HBW.out).mono ?_
              rintro e w8 ⟨Am, cm, rfl, hRm, hb⟩
              refine ⟨_, rfl, ?_⟩
              have HRM := Lib.hid hRm; clear hRm
              try (have n1_ := Lib.hid (blk_below HZB.out hb); clear HZB; have HZB := n1_; clear n1_)
              try (have n1_ := Lib.hid (rows_after HGE.out HRM.out); clear HRM; have HRM := n1_; clear n1_)
              have n0_ := Lib.hid (below_step HBW.out hb); clear HBW; have HBW := n0_; clear n0_; clear hb
              refine hK.out _ _ (HS4.out _ HBW.out) (fun hHeld => ?_)
              clear hK K
              refine norm_ (a' := ?_) ?_ ?_; rotate_left; (· (show Act.put _ (some 66) _ = _; simp only [Act.put, List.setIfInBounds_toArray, List.set_cons_zero, List.set_cons_succ, i64_w, i32_w]; rfl))
              (refine pure_ (i := 20) (N := some 46) (v := ?_) (a' := ?_) (fl_ 26 10485759) rfl rfl (any_of HT_.out (by kernel_rfl)) (fun _ _ _ h => h) (Or.inl ⟨by rfl, ?_⟩) ?_ ?_; rotate_left; (· (intro w'; go_simp; with_reducible rfl)); rotate_left; (· (simp only [Act.put, List.setIfInBounds_toArray, List.set_cons_zero, List.set_cons_succ, i64_w, i32_w]; rfl)))
              (refine pure_ (i := 21) (N := some 67) (v := ?_) (a' := ?_) (fl_ 26 12582911) rfl rfl (any_of HT_.out (by kernel_rfl)) (fun _ _ _ h => h) (Or.inl ⟨by rfl, ?_⟩) ?_ ?_; rotate_left; (· (intro w'; go_simp; with_reducible rfl)); rotate_left; (· (simp only [Act.put, List.setIfInBounds_toArray, List.set_cons_zero, List.set_cons_succ, i64_w, i32_w]; rfl)))
              (refine pure_ (i := 22) (N := some 68) (v := ?_) (a' := ?_) (fl_ 26 16777215) rfl rfl (any_of HT_.out (by kernel_rfl)) (fun _ _ _ h => h) (Or.inl ⟨by rfl, ?_⟩) ?_ ?_; rotate_left; (· (intro w'; go_simp; with_reducible rfl)); rotate_left; (· (simp only [Act.put, List.setIfInBounds_toArray, List.set_cons_zero, List.set_cons_succ, i64_w, i32_w]; rfl)))
              exact norm_ (by simp only [putAll, Act.put, List.setIfInBounds_toArray, List.set_cons_zero, List.set_cons_succ] <;> rfl) (hCont ⟨_, _, _⟩ _ ⟨HZB.out, HGE.out, HBW.out, HRM.out⟩)
          rintro ⟨gm, Am, cm⟩ w9 ⟨hzb, hge, hbw, hrm⟩; have HZB := Lib.hid hzb; have HGE := Lib.hid hge; have HBW := Lib.hid hbw; have HRM := Lib.hid hrm; clear hzb hge hbw hrm; dsimp only at HZB HGE HRM
          refine norm_ (a' := ?_) ?_ ?_; rotate_left; (· (simp only [putAll, Act.put, List.setIfInBounds_toArray, List.set_cons_zero, List.set_cons_succ]; rfl))
          refine last_ (i := 24) (N := none) (fl_ 26 33554431) rfl rfl (one_of HT_.out (by kernel_rfl)) (by decide) (fun K hK => ?_)
          refine store_row_step (by rfl) rfl rfl gm rfl #[.string rw_, .string ra, .int .u64 rd, .int .i64 ro, .slice Am nr cm, .int .i64 rc] rfl HZB.out (by kernel_rfl) rfl (by first | kernel_rfl | simp [Value.oneCell']) ?_
          refine hK.out _ _ ?_
          clear hK K
          (refine pure_ (i := 25) (N := some 12) (v := ?_) (a' := ?_) (fl_ 26 67108863) rfl rfl (any_of HT_.out (by kernel_rfl)) (fun _ _ _ h => h) (Or.inl ⟨by rfl, ?_⟩) ?_ ?_; rotate_left; (· (intro w'; go_simp; with_reducible rfl)); rotate_left; (· (simp only [Act.put, List.setIfInBounds_toArray, List.set_cons_zero, List.set_cons_succ, i64_w, i32_w]; rfl)))
          refine done_ (done_of HT_.out (by kernel_rfl)) ?_
          have HZC := Lib.hid (setRow_heap w9 gm _ (#[.string rw_, .string ra, .int .u64 rd, .int .i64 ro, .slice Am nr cm, .int .i64 rc]) _ _ HZB.out)
          have HBX := Lib.hid (below_setRow HBW.out HGE.out (#[.string rw_, .string ra, .int .u64 rd, .int .i64 ro, .slice Am nr cm, .int .i64 rc]))
          have HRX := Lib.hid (rows_set rfl HZB.out HRM.out (.string rw_) (.string ra) (.int .u64 rd) (.int .i64 ro) (.slice Am nr cm) (.int .i64 rc))
          generalize w9.setRow gm (#[.string rw_, .string ra, .int .u64 rd, .int .i64 ro, .slice Am nr cm, .int .i64 rc]) = wa at HZC HBX HRX ⊢
          clear HZB HBW HRM HMK HS4 HG7
          rcases HMD.out.is with ⟨h0, h1, h2, h3, h4, h5, h6, h7⟩ | h0
          · simp only at h0 h1 h2 h3 h4 h5 h6 h7
            subst h0 h1 h2 h3
            have HL1 : Hid (1 ≤ nr) := Lib.hid (by have h := HRO.out; rw [← h4, HNR.out] at h; exact h)
            have HOK : Hid (rl.all rowOk = true) := Lib.hid (by rw [h4]; exact HRK.out _ _ _)
            have H64R : Hid (rows64 rl) := Lib.hid (by
              intro r hr
              rw [h4] at hr
              obtain ⟨x, hx, _, _, _, g, hg, _, _, e2⟩ := rowsOf_mem _ _ _ _ r hr
              rw [e2]
              exact H64.out x hx g hg)
            have HSZ : Hid (∀ r ∈ rl, r.f1.size ≤ 140737488351232) := Lib.hid (by
              intro r hr
              have h := List.all_eq_true.1 HOK.out r hr
              unfold rowOk isPart at h
              simp only [Bool.and_eq_true, decide_eq_true_eq] at h
              have := h.1.2.2
              omega)
            have HI := Lib.hid (And.intro h5 (And.intro h6 h7))
            clear h4 h5 h6 h7 HMD HRO HRK
            have hws : rw_.size ≤ 140737488351232 ∧ ra.size ≤ 140737488351232 := by
              obtain ⟨z1, z2⟩ := HLG.out
              refine ⟨?_, ?_⟩
              · unfold isWho at z1
                cases hq : rw_.data.toList with
                | nil =>
                  have := size_len rw_
                  rw [hq] at this
                  simp only [List.length_nil] at this
                  omega
                | cons b u =>
                  rw [hq] at z1
                  simp only [Bool.and_eq_true, decide_eq_true_eq] at z1
                  have := z1.2
                  have hs := size_len rw_
                  rw [hq] at hs
                  simp only [List.length_cons] at hs
                  omega
              · unfold isPart at z2
                simp only [Bool.and_eq_true, decide_eq_true_eq] at z2
                have := z2.2.2
                omega
            obtain ⟨kc, hkc⟩ := Ev.rounds (chk_ev rw_ ra rd ro rl rc hws.1 hws.2 HI.out.1 HI.out.2.1 H64R.out HSZ.out (by rw [HNR.out]; exact HRN.out))
            clear hws HSZ H64R
            go_upto_region 15 with (go_at_call 10; refine (HMN.out _ HBX.out).mono ?_; rintro e wb ⟨At, ct, nt, rfl, hb⟩; have HBB := Lib.hid hb; clear hb)
            have hbc : Below wa.heap.size wa (wb.alloc (.cells #[.string tw, .string ta, .int .u64 td, .int .i64 to_, .slice At nt ct, .int .i64 tc] 28)) := below_alloc HBB.out _
            have HT := Lib.hid (heap_alloc_new wb (.cells #[.string tw, .string ta, .int .u64 td, .int .i64 to_, .slice At nt ct, .int .i64 tc] 28))
            generalize wb.alloc (.cells #[.string tw, .string ta, .int .u64 td, .int .i64 to_, .slice At nt ct, .int .i64 tc] 28) = wc at hbc HT ⊢
            obtain ⟨gt, hgt⟩ : ∃ g, g = wb.heap.size := ⟨_, rfl⟩
            rw [← hgt] at HT ⊢
            have HZD := Lib.hid (blk_below HZC.out hbc)
            have HRD := Kd.R_reads' (Kd.R_below HRX.out hbc)
            have HBC := Lib.hid (below_step HBX.out hbc)
            have HCC : Hid (Calls Tryd.prog 16 #[.agg #[.string rw_, .string ra, .int .u64 rd, .int .i64 ro, .slice Am nr cm, .int .i64 rc]] wc fun e w' => e = .returned (.int .i64 (slipC (slipB rw_ ra ro rl rc))) ∧ Below wc.heap.size wc w') := Lib.hid (by
              have h := slip_Check.calls kc rw_ ra rd ro Am cm rl rc _ wc (HG.out.below HBC.out) HRD.2.2 (by rw [HNR.out]; exact HRD.2.1) hkc
              rw [HNR.out] at h
              exact h)
            clear hbc hgt HZC HRX HBX HBB HRD hkc HMN
            obtain ⟨s0, s1, s2, s3, s4, s5⟩ := checks_slip HZD.out
            have hl1 := HL1.out
            have l1 : decide ((nr : Int) ≥ 1) = true := decide_eq_true (by omega)
            have l2 : (1 : Int) ≤ (nr : Int) := by omega
            by_cases h8 : nr ≤ 1000
            · have hsb : slipB rw_ ra ro rl rc = true := by
                unfold slipB
                rw [HLG.out.1, HLG.out.2, HNR.out, decide_eq_true h8, decide_eq_true HI.out.2.2, HOK.out]
                rfl
              rw [hsb] at HCC
              have z : slipC true = 0 := rfl
              rw [z] at HCC
              clear z hsb
              go_upto_region 16 with (go_at_call 16; refine (HCC.out).mono ?_; rintro e wd ⟨rfl, hb⟩; have HBD := Lib.hid hb; clear s0 s1 s2 s3 s4 s5; obtain ⟨s0, s1, s2, s3, s4, s5⟩ := checks_slip (blk_below HZD.out hb); clear hb)
              obtain ⟨d0, d1, d2, d3, d4, d5⟩ := checks_slip (blk_below HT.out HBD.out)
              have HBE := Lib.hid (below_step HBC.out HBD.out)
              rcases HME.out.is with ⟨h0, h1, h2, h3, _⟩ | h0
              · simp only at h0 h1 h2 h3
                subst h0 h1 h2 h3
                go_wp2
                go_ret
                exact ⟨rfl, HBE.out⟩
              · simp only at h0
                subst h0
                go_wp2
                go_ret
                exact ⟨rfl, HBE.out⟩
            · have hsb : slipB rw_ ra ro rl rc = false := by
                unfold slipB
                rw [HNR.out, decide_eq_false h8]
                simp
              rw [hsb] at HCC
              have z : slipC false = 190 := rfl
              rw [z] at HCC
              clear z hsb
              have l3 : decide ((nr : Int) > 1000) = true := decide_eq_true (by omega)
              have l4 : (1000 : Int) < (nr : Int) := by omega
              go_upto_region 16 with (go_at_call 16; refine (HCC.out).mono ?_; rintro e wd ⟨rfl, hb⟩; have HBD := Lib.hid hb; clear s0 s1 s2 s3 s4 s5; obtain ⟨s0, s1, s2, s3, s4, s5⟩ := checks_slip (blk_below HZD.out hb); clear hb)
              obtain ⟨d0, d1, d2, d3, d4, d5⟩ := checks_slip (blk_below HT.out HBD.out)
              have HBE := Lib.hid (below_step HBC.out HBD.out)
              rcases HME.out.is with ⟨h0, h1, h2, h3, _⟩ | h0
              · simp only at h0 h1 h2 h3
                subst h0 h1 h2 h3
                go_wp2
                go_ret
                exact ⟨rfl, HBE.out⟩
              · simp only at h0
                subst h0
                go_wp2
                go_ret
                exact ⟨rfl, HBE.out⟩
          · simp only at h0
            subst h0
            go_wp2
            go_ret
            exact ⟨rfl, HBX.out⟩
end Go.Proofs.YtnngbnhbmgdkoaaDoor.E
