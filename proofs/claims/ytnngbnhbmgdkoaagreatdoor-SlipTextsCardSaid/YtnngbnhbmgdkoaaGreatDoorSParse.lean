/- The walk of slip.Parse. -/
import Derived.Test.YtnngbnhbmgdkoaaGreatDoorSCatch
namespace Go.Proofs.YtnngbnhbmgdkoaaGreatDoor.E
open Go.RowKit Go.Proofs.YtnngbnhbmgdkoaaGreatDoor.P Go.Proofs.YtnngbnhbmgdkoaaGreatDoorW.PrintWords Go.Proofs.YtnngbnhbmgdkoaaGreatDoorW.PrintLast
/-- What a text is: given up, or a statement. -/
def parseR (k : Nat) (text : ByteArray) : Option (Option Slip6) := if (splitOn text 10).getD ((splitOn text 10).length - 1) ⟨#[]⟩ = ⟨#[]⟩ then slipR k ((splitOn text 10).take ((splitOn text 10).length - 1)) else some none
def outR : Option Slip6 → ByteArray × ByteArray × Int × Int × List Line_ × Int × Int
  | none => (⟨#[]⟩, ⟨#[]⟩, 0, 0, [], 0, 190)
  | some r => (r.1, r.2.1, r.2.2.1, r.2.2.2.1, r.2.2.2.2.1, r.2.2.2.2.2, 0)
def slip_Parse.f (k : Nat) (text : ByteArray) : Option (ByteArray × ByteArray × Int × Int × List Line_ × Int × Int) := if text.size ≤ 900000 then (parseR k text).map outR else none
theorem slipR_mono (L : List ByteArray) (k : Nat) : LeO (slipR k L) (slipR (k + 1) L) := by
  unfold slipR
  repeat' (first | exact LeO.refl _ | split)
  exact LeO.map _ (slip_Check.mono _ _ _ _ _ _ _)
theorem slip_Parse.mono (text : ByteArray) (k : Nat) : LeO (slip_Parse.f k text) (slip_Parse.f (k + 1) text) := by
  unfold slip_Parse.f parseR
  refine LeO.ite (LeO.map _ (LeO.ite (slipR_mono _ _) (LeO.refl _))) (LeO.refl _)
/-- How slip.Parse ends, told before its results are read. -/
structure PEnd (w : World) (o : ByteArray × ByteArray × Int × Int × List Line_ × Int × Int) (e : Ending) (w' : World) : Prop where
  out : ∃ v4_ : Value, e = .returned (.tuple #[.agg #[.string o.1, .string o.2.1, .int .u64 o.2.2.1, .int .i64 o.2.2.2.1, v4_, .int .i64 o.2.2.2.2.2.1], .int .i64 o.2.2.2.2.2.2]) ∧ Kd.R k37 37 w' w.heap.size (fun _ => True) v4_ o.2.2.2.2.1 ∧ Below w.heap.size w w'
set_option maxHeartbeats 8000000 in
set_option maxRecDepth 100000 in
set_option linter.unusedSimpArgs false in
set_option linter.unusedVariables false in
theorem parse_calls (k : Nat) (text : ByteArray) (hs : text.size ≤ 900000) (R : Option Slip6) (w : World) (hG : Glob w) (hk : parseR k text = some R) :
    Calls Tryz.prog 8 #[.string text] w fun e w' => PEnd w (outR R) e w' := by
  have hmf : ∀ (fn : Fn) (first cap : Array Value) (w : World), (Instr.makeFunc fn first cap).run Tryz.prog w = .ok (.func fn first cap) w := fun _ _ _ _ => rfl
  have HS : Hid (∀ W, Glob W → Calls Tryz.prog 25 #[.string text, .string ⟨#[10]⟩] W fun e w' => ∃ v_ : Value, e = .returned v_ ∧ Kd.R Kd.string 9 w' W.heap.size (fun _ => True) v_ (splitOn text 10) ∧ Below W.heap.size W w') := Lib.hid fun W hW => split_calls text 10 (by omega) W hW
  have HG := Lib.hid hG
  have hpos := split_pos text 10
  have hlen : (splitOn text 10).length ≤ 900002 := by
    rw [length_splitOn]
    have h1 := Lib.count_le text.data.toList [10]
    have h2 := size_len text
    show Lib.count text.data.toList [10] + 1 ≤ _
    omega
  have hsz : ∀ x ∈ splitOn text 10, x.size ≤ 1000000 := fun x hx => Nat.le_trans (splitS_sizes hx) (Nat.le_trans hs (by decide))
  unfold parseR at hk
  generalize splitOn text 10 = ls at *
  obtain ⟨n, hn⟩ : ∃ n, ls.length = n + 1 := ⟨ls.length - 1, by omega⟩
  rw [hn] at hk
  simp only [Nat.add_sub_cancel] at hk
  go_enter_defers Tryz.func8, Tryz.ntmps8
  go_upto_region 3 with (first | ((with_reducible refine gate_dst (N := 2) rfl ?_); refine box_event ?hg (N := 2) ?hd (cs := zeroS) (t := 25) ?hr ?_; (case hd => rfl); (case hg => rfl); (case hr => first | (go_simp; done) | (go_simp; rfl)); intro bs hbs w1 hb1 hbb; have HBS := Lib.hid hbs; have HX1 := Lib.hid hb1; have HB1 := Lib.hid hbb; clear hbs hb1 hbb) | ((with_reducible refine gate_dst (N := 3) rfl ?_); refine box_event ?hg (N := 3) ?hd (cs := #[.int .i64 0]) (t := 28) ?hr ?_; (case hd => rfl); (case hg => rfl); (case hr => first | (go_simp; done) | (go_simp; rfl)); intro be hbe w2 hb2 hbb; have HBE : Hid (bs < be) := Lib.hid (by have := blk_lt HX1.out; omega); have HX2 := Lib.hid (blk_below HX1.out hbb); have HY2 := Lib.hid hb2; have HB2 := Lib.hid (below_step HB1.out hbb); clear hbe hb2 hbb HX1 HB1) | (go_at_call 25; refine (HS.out _ (HG.out.below HB2.out)).mono ?_; rintro e w3 ⟨v, rfl, hR, hb⟩; have HX3 := Lib.hid (blk_below HX2.out hb); have HY3 := Lib.hid (blk_below HY2.out hb); have HB3 := Lib.hid (below_step HB2.out hb); have HR := Lib.hid hR; clear hR hb HX2 HY2 HB2 HS))
  obtain ⟨Al, cl, hv⟩ := Kd.R_slice HR.out
  subst hv
  have hre := Kd.R_reads' HR.out
  obtain ⟨m, hm⟩ : ∃ m, ls.length = m := ⟨_, rfl⟩
  have hcl : m ≤ cl := hm ▸ hre.2.1
  have hC := hre.2.2
  obtain ⟨i9, hi9, _, hz9, _⟩ := info_parts (show (Tryz.prog.info? 9).map (fun i => (i.zero, i.size, i.bytes)) = some (some (.string ⟨#[]⟩), 1, 16) by kernel_rfl)
  have hcell : ∃ b o, Al = some ⟨b, o, none⟩ ∧ w3.cell? ⟨b, o + n, none⟩ = some (.string (ls.getD n ⟨#[]⟩)) := by
    rcases str_cells hC with h0 | ⟨ad, rfl, hc⟩
    · omega
    · obtain ⟨b, o, rfl⟩ := spot_none (hc 0 (by omega))
      have e : (⟨b, o, none⟩ : Addr).add 0 = ⟨b, o, none⟩ := by unfold Addr.add; simp
      have h1 := hc n (by omega)
      refine ⟨b, o, ?_, ?_⟩
      · have := spot_none (hc 0 (by omega))
        rfl
      · rw [add_plain] at h1
        exact h1
  obtain ⟨b, o, hAl, pc⟩ := hcell
  subst hAl
  have hL : (ls.take n).length = n := by rw [List.length_take]; omega
  have hCt : Kd.C Kd.string w3 (some ⟨b, o, none⟩) (ls.take n).length (ls.take n) := Kd.C_take hC (by omega)
  have HSL : Hid (∀ g W4 R', g = w3.heap.size → W4.heap[g]? = some (.cells #[.slice (some ⟨b, o, none⟩) n cl, .string ⟨#[]⟩, .string ⟨#[]⟩, .int .u64 0, .int .i64 0, .slice none 0 0, .int .i64 0] 67 (0, 0)) → Below w3.heap.size w3 W4 → slipR k (ls.take n) = some R' → Calls Tryz.prog 27 #[.pointer (some ⟨g, 0, none⟩)] W4 fun e w' => SEnd w3 R' e w') := Lib.hid fun g W4 R' hg hbx hb hk' => by
    subst hg
    have := slip_calls k w3 W4 (some ⟨b, o, none⟩) cl (ls.take n) ⟨hb, HG.out.below HB3.out, by rw [hL]; exact hbx⟩ hCt (by omega) (fun s hs' => hsz s (List.mem_of_mem_take hs')) (by omega) R' hk'
    exact this
  have hs1 : ∀ W : World, (Instr.slice 51 (.slice (some ⟨b, o, none⟩) m cl) none (some (.int .i64 ((m : Int) - 1))) none).run Tryz.prog W = .ok (.slice (some ⟨b, o, none⟩) n cl) W := fun W => by
    have := cut_to (P := Tryz.prog) (W := W) 51 9 .i64 Tryz.underlying51 hi9 (some ⟨b, o, none⟩) m cl ((m : Int) - 1) (by omega) (by omega) hcl
    rwa [show ((m : Int) - 1).toNat = n by omega] at this
  have hs2 : ∀ W : World, (Instr.slice 51 (.slice (some ⟨b, o, none⟩) m cl) none (some (.int .i64 (n : Int))) none).run Tryz.prog W = .ok (.slice (some ⟨b, o, none⟩) n cl) W := fun W => by
    have := hs1 W
    rwa [show ((m : Int) - 1) = (n : Int) by omega] at this
  obtain ⟨x, hx⟩ : ∃ x, ls.getD n ⟨#[]⟩ = x := ⟨_, rfl⟩
  rw [hx] at hk pc
  have p3 : IntKind.i64.wrap ((m : Int) - 1) = (n : Int) := by rw [IntKind.wrap_i64]; omega
  have p3b : wrap64 ((m : Int) - 1) = (n : Int) := by unfold wrap64; omega
  have p5 : (n : Int) < (m : Int) := by omega
  have p6 : n < m := by omega
  have p7 : n ≤ m := by omega
  rw [hm]
  have HSZ3 : Hid (w.heap.size ≤ bs ∧ bs < be ∧ be < w3.heap.size) := Lib.hid ⟨by have := HBS.out; omega, HBE.out, blk_lt HY3.out⟩
  clear hre hC hcl hx hL hCt hi9 hz9 hsz hlen hpos HBS HR
  by_cases hxe : x = ⟨#[]⟩
  · subst hxe
    rw [if_pos rfl] at hk
    have HK := Lib.hid hk
    clear hk
    go_upto_region 5 with (first | (go_at_call 26; refine (needs_yes _).mono ?_; rintro e w11 ⟨rfl, rfl⟩) | ((with_reducible refine gate_dst (N := 24) rfl ?_); refine box_event ?hg (N := 24) ?hd (cs := #[.slice (some ⟨b, o, none⟩) n cl, .string ⟨#[]⟩, .string ⟨#[]⟩, .int .u64 0, .int .i64 0, .slice none 0 0, .int .i64 0]) (t := 67) ?hr ?_; (case hd => rfl); (case hg => rfl); (case hr => first | (go_simp; done) | (go_simp; rfl)); intro g hg w4 hbx hbb; have HCL := Lib.hid (HSL.out g w4 R hg hbx hbb HK.out); have HGE := Lib.hid hg; clear hg hbx hbb HSL))
    cases R with
    | none =>
      go_wp2_with (go_at_call 27; refine (HCL.out).mono ?_; rintro e w5 ⟨hb5, he⟩; unfold gaveUp at he; simp only at he; subst he; have HB5 := Lib.hid hb5; clear hb5)
      have he := (HB5.out.block be HSZ3.out.2.2).trans HY3.out
      have hz := (HB5.out.block bs (Nat.lt_trans HSZ3.out.2.1 HSZ3.out.2.2)).trans HX3.out
      refine leaves_cons (f := 23) (args := #[.pointer (some ⟨be, 0, none⟩), .pointer (some ⟨bs, 0, none⟩)]) (by simp) (by simp [go_sem]) ?_
      refine (catch_panicking be bs HBE.out _ he hz).mono ?_
      rintro e u' w'' ⟨rfl, rfl, h1, h2, h3⟩
      have c0 : w''.cell? ⟨be, 0, none⟩ = some (.int .i64 190) := (blk_cell h1 0).trans rfl
      have s0 : w''.cell? ⟨bs, 0, none⟩ = some (.string ⟨#[]⟩) := (blk_cell h2 0).trans rfl
      have s1 : w''.cell? ⟨bs, 1, none⟩ = some (.string ⟨#[]⟩) := (blk_cell h2 1).trans rfl
      have s2 : w''.cell? ⟨bs, 2, none⟩ = some (.int .u64 0) := (blk_cell h2 2).trans rfl
      have s3 : w''.cell? ⟨bs, 3, none⟩ = some (.int .i64 0) := (blk_cell h2 3).trans rfl
      have s4 : w''.cell? ⟨bs, 4, none⟩ = some (.slice none 0 0) := (blk_cell h2 4).trans rfl
      have s5 : w''.cell? ⟨bs, 5, none⟩ = some (.int .i64 0) := (blk_cell h2 5).trans rfl
      simp [Leaves, settle, results, Tryz.results8, go_sem, c0, s0, s1, s2, s3, s4, s5]
      exact ⟨_, rfl, Kd.R_nil _ _ _ _ _, below_weaken (below_step HB3.out HB5.out) HSZ3.out.1 h3⟩
    | some r =>
      obtain ⟨who, asset, day, op, lns, cl⟩ := r
      go_upto_region 6 with (go_at_call 27; refine (HCL.out).mono ?_; rintro e w5 ⟨hb5, he, x0, v, hrd, hR⟩; subst he; obtain ⟨Av, cv, hv⟩ := Kd.R_slice hR; subst hv; have HB5 := Lib.hid hb5; have HRD := Lib.hid hrd; have HR5 := Lib.hid hR; clear hb5 hrd hR HCL)
      have hgE := HGE.out
      subst hgE
      obtain ⟨nl, hnl⟩ : ∃ nl, lns.length = nl := ⟨_, rfl⟩
      have hrd := HRD.out
      have hR5 := Kd.R_mono (Kd.R_bound HR5.out) (ok' := fun k => w11.heap.size + 1 ≤ k) (fun k hk => hk.2.1)
      simp only [hnl] at hrd hR5
      have HNL := Lib.hid hnl
      clear HRD HR5 hnl
      have he := (HB5.out.block be HSZ3.out.2.2).trans HY3.out
      have hz := (HB5.out.block bs (Nat.lt_trans HSZ3.out.2.1 HSZ3.out.2.2)).trans HX3.out
      have hB5 := below_step HB3.out HB5.out
      have hZ := (blk_put (blk_put (blk_put (blk_put (blk_put (blk_put hz 0 (.string who) (cs' := #[.string who, .string ⟨#[]⟩, .int .u64 0, .int .i64 0, .slice none 0 0, .int .i64 0]) rfl) 1 (.string asset) (cs' := #[.string who, .string asset, .int .u64 0, .int .i64 0, .slice none 0 0, .int .i64 0]) rfl) 2 (.int .u64 day) (cs' := #[.string who, .string asset, .int .u64 day, .int .i64 0, .slice none 0 0, .int .i64 0]) rfl) 3 (.int .i64 op) (cs' := #[.string who, .string asset, .int .u64 day, .int .i64 op, .slice none 0 0, .int .i64 0]) rfl) 4 (.slice Av nl cv) (cs' := #[.string who, .string asset, .int .u64 day, .int .i64 op, .slice Av nl cv, .int .i64 0]) rfl) 5 (.int .i64 cl) (cs' := #[.string who, .string asset, .int .u64 day, .int .i64 op, .slice Av nl cv, .int .i64 cl]) rfl)
      have hE := blk_put (blk_far (blk_far (blk_far (blk_far (blk_far (blk_far he (p := ⟨bs, 0, none⟩) (Nat.ne_of_gt HBE.out) (.string who)) (p := ⟨bs, 1, none⟩) (Nat.ne_of_gt HBE.out) (.string asset)) (p := ⟨bs, 2, none⟩) (Nat.ne_of_gt HBE.out) (.int .u64 day)) (p := ⟨bs, 3, none⟩) (Nat.ne_of_gt HBE.out) (.int .i64 op)) (p := ⟨bs, 4, none⟩) (Nat.ne_of_gt HBE.out) (.slice Av nl cv)) (p := ⟨bs, 5, none⟩) (Nat.ne_of_gt HBE.out) (.int .i64 cl)) 0 (.int .i64 0) (cs' := #[.int .i64 0]) rfl
      have hZ2 := blk_far hZ (p := ⟨be, 0, none⟩) (Nat.ne_of_lt HBE.out) (.int .i64 0)
      have hBz := Below.setCell (Below.setCell (Below.setCell (Below.setCell (Below.setCell (Below.setCell (Below.setCell hB5 (p := ⟨bs, 0, none⟩) HSZ3.out.1 (.string who)) (p := ⟨bs, 1, none⟩) HSZ3.out.1 (.string asset)) (p := ⟨bs, 2, none⟩) HSZ3.out.1 (.int .u64 day)) (p := ⟨bs, 3, none⟩) HSZ3.out.1 (.int .i64 op)) (p := ⟨bs, 4, none⟩) HSZ3.out.1 (.slice Av nl cv)) (p := ⟨bs, 5, none⟩) HSZ3.out.1 (.int .i64 cl)) (p := ⟨be, 0, none⟩) (Nat.le_trans HSZ3.out.1 (Nat.le_of_lt HSZ3.out.2.1)) (.int .i64 0)
      have hRz := Kd.R_far (p := ⟨be, 0, none⟩) (Kd.R_far (p := ⟨bs, 5, none⟩) (Kd.R_far (p := ⟨bs, 4, none⟩) (Kd.R_far (p := ⟨bs, 3, none⟩) (Kd.R_far (p := ⟨bs, 2, none⟩) (Kd.R_far (p := ⟨bs, 1, none⟩) (Kd.R_far (p := ⟨bs, 0, none⟩) hR5 (fun k hk => by have := hk; have := HSZ3.out; show k ≠ bs; omega) (.string who)) (fun k hk => by have := hk; have := HSZ3.out; show k ≠ bs; omega) (.string asset)) (fun k hk => by have := hk; have := HSZ3.out; show k ≠ bs; omega) (.int .u64 day)) (fun k hk => by have := hk; have := HSZ3.out; show k ≠ bs; omega) (.int .i64 op)) (fun k hk => by have := hk; have := HSZ3.out; show k ≠ bs; omega) (.slice Av nl cv)) (fun k hk => by have := hk; have := HSZ3.out; show k ≠ bs; omega) (.int .i64 cl)) (fun k hk => by have := hk; have := HSZ3.out; show k ≠ be; omega) (.int .i64 0)
      have HZ := Lib.hid hZ2; have HE := Lib.hid hE; have HBZ := Lib.hid hBz; have HRZ := Lib.hid hRz
      clear hZ hE hZ2 hBz hRz hB5 hR5
      have q1 : w5.cell? ⟨w11.heap.size, 1, none⟩ = some (.string who) := (blk_cell hrd.blk 1).trans rfl
      have q2 : w5.cell? ⟨w11.heap.size, 2, none⟩ = some (.string asset) := (blk_cell hrd.blk 2).trans rfl
      have q3 : w5.cell? ⟨w11.heap.size, 3, none⟩ = some (.int .u64 day) := (blk_cell hrd.blk 3).trans rfl
      have q4 : w5.cell? ⟨w11.heap.size, 4, none⟩ = some (.int .i64 op) := (blk_cell hrd.blk 4).trans rfl
      have q5 : w5.cell? ⟨w11.heap.size, 5, none⟩ = some (.slice Av nl cv) := (blk_cell hrd.blk 5).trans rfl
      have q6 : w5.cell? ⟨w11.heap.size, 6, none⟩ = some (.int .i64 cl) := (blk_cell hrd.blk 6).trans rfl
      have s0 : w5.cell? ⟨bs, 0, none⟩ = some (.string ⟨#[]⟩) := (blk_cell hz 0).trans rfl
      have s1 : w5.cell? ⟨bs, 1, none⟩ = some (.string ⟨#[]⟩) := (blk_cell hz 1).trans rfl
      have s2 : w5.cell? ⟨bs, 2, none⟩ = some (.int .u64 0) := (blk_cell hz 2).trans rfl
      have s3 : w5.cell? ⟨bs, 3, none⟩ = some (.int .i64 0) := (blk_cell hz 3).trans rfl
      have s4 : w5.cell? ⟨bs, 4, none⟩ = some (.slice none 0 0) := (blk_cell hz 4).trans rfl
      have s5 : w5.cell? ⟨bs, 5, none⟩ = some (.int .i64 0) := (blk_cell hz 5).trans rfl
      have z0 := blk_frozen hz 0
      have z1 := blk_frozen hz 1
      have z2 := blk_frozen hz 2
      have z3 := blk_frozen hz 3
      have z4 := blk_frozen hz 4
      have z5 := blk_frozen hz 5
      have d0 : w5.cell? ⟨be, 0, none⟩ = some (.int .i64 0) := (blk_cell he 0).trans rfl
      have d1 := blk_frozen he 0
      have hne : be ≠ bs := Nat.ne_of_gt HBE.out
      have hne2 : bs ≠ be := Nat.ne_of_lt HBE.out
      clear he hz hrd
      go_wp2
      generalize (((((((w5.setCell ⟨bs, 0, none⟩ (.string who)).setCell ⟨bs, 1, none⟩ (.string asset)).setCell ⟨bs, 2, none⟩ (.int .u64 day)).setCell ⟨bs, 3, none⟩ (.int .i64 op)).setCell ⟨bs, 4, none⟩ (.slice Av nl cv)).setCell ⟨bs, 5, none⟩ (.int .i64 cl)).setCell ⟨be, 0, none⟩ (.int .i64 0)) = wz at HZ HE HBZ HRZ ⊢
      clear q1 q2 q3 q4 q5 q6 s0 s1 s2 s3 s4 s5 z0 z1 z2 z3 z4 z5 d0 d1
      refine leaves_cons (f := 23) (args := #[.pointer (some ⟨be, 0, none⟩), .pointer (some ⟨bs, 0, none⟩)]) (by simp) (by simp [go_sem]) ?_
      refine (catch_idle be bs 0 wz HE.out).mono ?_
      rintro e u' w'' ⟨rfl, rfl, rfl⟩
      have h1 := blk_put HE.out 0 (.int .i64 0) (cs' := #[.int .i64 0]) rfl
      have h2 := blk_far HZ.out (p := ⟨be, 0, none⟩) hne2 (.int .i64 0)
      have h3 := HBZ.out.setCell (p := ⟨be, 0, none⟩) (Nat.le_trans HSZ3.out.1 (Nat.le_of_lt HSZ3.out.2.1)) (.int .i64 0)
      have h4 := Kd.R_far (p := ⟨be, 0, none⟩) HRZ.out (fun k hk => by have := hk; have := HSZ3.out; show k ≠ be; omega) (.int .i64 0)
      generalize wz.setCell ⟨be, 0, none⟩ (.int .i64 0) = wf at h1 h2 h3 h4 ⊢
      have c0 : wf.cell? ⟨be, 0, none⟩ = some (.int .i64 0) := (blk_cell h1 0).trans rfl
      have s0 : wf.cell? ⟨bs, 0, none⟩ = some (.string who) := (blk_cell h2 0).trans rfl
      have s1 : wf.cell? ⟨bs, 1, none⟩ = some (.string asset) := (blk_cell h2 1).trans rfl
      have s2 : wf.cell? ⟨bs, 2, none⟩ = some (.int .u64 day) := (blk_cell h2 2).trans rfl
      have s3 : wf.cell? ⟨bs, 3, none⟩ = some (.int .i64 op) := (blk_cell h2 3).trans rfl
      have s4 : wf.cell? ⟨bs, 4, none⟩ = some (.slice Av nl cv) := (blk_cell h2 4).trans rfl
      have s5 : wf.cell? ⟨bs, 5, none⟩ = some (.int .i64 cl) := (blk_cell h2 5).trans rfl
      simp [Leaves, settle, results, Tryz.results8, go_sem, c0, s0, s1, s2, s3, s4, s5]
      exact ⟨_, rfl, Kd.R_mono (Kd.R_lower h4 (Nat.le_trans (Nat.le_trans HSZ3.out.1 (Nat.le_of_lt (Nat.lt_trans HSZ3.out.2.1 HSZ3.out.2.2))) (Nat.le_succ _))) (fun _ _ => trivial), h3⟩
  · rw [if_neg hxe] at hk
    obtain rfl : R = none := (Option.some.inj hk).symm
    have m1 : (x.toList == (⟨#[]⟩ : ByteArray).toList) = false := beq_eq_false_iff_ne.2 (fun e => hxe (toList_inj.1 e))
    have m2 : (x.toList == ([] : List UInt8)) = false := by
      have h : (⟨#[]⟩ : ByteArray).toList = [] := by rw [toList_data]
      rw [h] at m1
      exact m1
    have m3 : x.toList.isEmpty = false := by
      cases h : x.toList with
      | nil => rw [h] at m2; cases m2
      | cons a l => rfl
    clear hk hxe HSL
    go_wp2_with (go_at_call 26; refine (needs_no _).mono ?_; rintro e w11 ⟨rfl, rfl⟩)
    have he := HY3.out
    have hz := HX3.out
    refine leaves_cons (f := 23) (args := #[.pointer (some ⟨be, 0, none⟩), .pointer (some ⟨bs, 0, none⟩)]) (by simp) (by simp [go_sem]) ?_
    refine (catch_panicking be bs HBE.out _ he hz).mono ?_
    rintro e u' w'' ⟨rfl, rfl, h1, h2, h3⟩
    have c0 : w''.cell? ⟨be, 0, none⟩ = some (.int .i64 190) := (blk_cell h1 0).trans rfl
    have s0 : w''.cell? ⟨bs, 0, none⟩ = some (.string ⟨#[]⟩) := (blk_cell h2 0).trans rfl
    have s1 : w''.cell? ⟨bs, 1, none⟩ = some (.string ⟨#[]⟩) := (blk_cell h2 1).trans rfl
    have s2 : w''.cell? ⟨bs, 2, none⟩ = some (.int .u64 0) := (blk_cell h2 2).trans rfl
    have s3 : w''.cell? ⟨bs, 3, none⟩ = some (.int .i64 0) := (blk_cell h2 3).trans rfl
    have s4 : w''.cell? ⟨bs, 4, none⟩ = some (.slice none 0 0) := (blk_cell h2 4).trans rfl
    have s5 : w''.cell? ⟨bs, 5, none⟩ = some (.int .i64 0) := (blk_cell h2 5).trans rfl
    simp [Leaves, settle, results, Tryz.results8, go_sem, c0, s0, s1, s2, s3, s4, s5]
    exact ⟨_, rfl, Kd.R_nil _ _ _ _ _, below_weaken HB3.out HSZ3.out.1 h3⟩
theorem slip_Parse.calls (k : Nat) (a0 : ByteArray) (r1 : ByteArray) (r2 : ByteArray) (r3 : Int) (r4 : Int) (r5 : List Line_) (r6 : Int) (r7 : Int) (w : World) (hG : Glob w) (h : slip_Parse.f k a0 = some (r1, r2, r3, r4, r5, r6, r7)) :
    Calls Tryz.prog 8 #[.string a0] w fun e w' => ∃ v4_ : Value, e = .returned (.tuple #[.agg #[.string r1, .string r2, .int .u64 r3, .int .i64 r4, v4_, .int .i64 r6], .int .i64 r7]) ∧ Kd.R k37 37 w' w.heap.size (fun _ => True) v4_ r5 ∧ Below w.heap.size w w' := by
  unfold slip_Parse.f at h
  split at h
  case isFalse => cases h
  rename_i hs
  obtain ⟨R, hR, e⟩ := Option.map_eq_some_iff.1 h
  refine (parse_calls k a0 hs R w hG hR).mono ?_
  rintro e' w' ⟨v, he, hK, hb⟩
  rw [e] at he hK
  exact ⟨v, he, hK, hb⟩
end Go.Proofs.YtnngbnhbmgdkoaaGreatDoor.E
