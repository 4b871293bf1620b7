/- The walks of wire.Decode's two closures: the next word, and the number that it is. The command that bytes may be, as wire.Decode takes it out of them; what it answers. -/
import Derived.Test.YtdpdbmdnmgaeiaaDoorEncode
import Derived.Test.YtdpdbmdnmgaeiaaDoorParse
import Derived.Test.YtdpdbmdnmgaeiaaDoorLib
namespace Go.Proofs.YtdpdbmdnmgaeiaaDoor.E
open Go.RowKit Go.Proofs.YtdpdbmdnmgaeiaaDoor.P Go.Proofs.YtdpdbmdnmgaeiaaDoorW.PrintWords Go.Proofs.YtdpdbmdnmgaeiaaDoorW.PrintLast
def next6_T : Bool × List (List Nat × List Nat) := (true, [([], []), ([0], [0]), ([1], [1]), ([], []), ([3], [3]), ([2, 0, 1, 2], [2]), ([4, 5, 0, 1, 2, 3, 4, 5], [4])])
def next6_B : List Nat := [0, 1, 3, 0, 8, 7, 63]
theorem next6_tab : rtab .any (opsOf Tryd.f29 6) = next6_T := by kernel_rfl
theorem next6_bits : waitsOk next6_T.2 next6_B = true := by kernel_rfl
theorem below_cell {B : Nat} {w W : World} (h : Below B w W) {p : Addr} (hp : B ≤ p.block) (u : Value) : Below B w (W.setCell p u) := ⟨h.os, h.tape, h.output, by simpa [World.setCell] using h.size, fun k hk => (Below.heap_setCell W p u k (by omega)).trans (h.block k hk)⟩
theorem blk_off {W : World} {g : Nat} {o : Obj} (h : W.heap[g]? = some o) {p : Addr} (hp : g ≠ p.block) (u : Value) : (W.setCell p u).heap[g]? = some o := (Below.heap_setCell W p u g hp).trans h
/-- The texts' row, the command, what is left of the texts; the result's cell. -/
structure DA (w : World) (bR bl bc bL : Nat) (L : List ByteArray) (cs : Array Value) (lv : Value) (W : World) : Prop where
  res : W.heap[bR]? = some (.cells #[.int .i64 0, .string ⟨#[]⟩, .string ⟨#[]⟩, .string ⟨#[]⟩, .string ⟨#[]⟩, .int .i64 0, .int .i64 0, .int .u64 0] 25 (0, 0))
  lst : W.heap[bl]? = some (.cells #[lv] 40 (0, 0))
  cmd : W.heap[bc]? = some (.cells cs 25 (0, 0))
  row : W.heap[bL]? = some (.cells (L.map Value.string).toArray 9 (0, 0))
  below : Below w.heap.size w W
  g0 : Glob w
  ge : w.heap.size ≤ bR ∧ w.heap.size ≤ bl ∧ w.heap.size ≤ bc
  ne : bR ≠ bc
section
variable {w : World} {bR bl bc bL bw bn : Nat} {L : List ByteArray} {cs : Array Value} {lv : Value} {W W' : World} {wr : Bool} {fv : Value}
theorem DA.glob (h : DA w bR bl bc bL L cs lv W) : Glob W := h.g0.below h.below
theorem DA.step (h : DA w bR bl bc bL L cs lv W) (hb : Below W.heap.size W W') : DA w bR bl bc bL L cs lv W' := ⟨blk_below h.res hb, blk_below h.lst hb, blk_below h.cmd hb, blk_below h.row hb, below_then h.below h.below.size hb, h.g0, h.ge, h.ne⟩
theorem DA.setL (h : DA w bR bl bc bL L cs lv W) (u : Value) : DA w bR bl bc bL L cs u (W.setCell ⟨bl, 0, none⟩ u) :=
  ⟨blk_off h.res (blk_ne h.res h.lst (by decide)) u, blk_put h.lst 0 u rfl, blk_off h.cmd (blk_ne h.cmd h.lst (by decide)) u, blk_off h.row (blk_ne h.row h.lst (by decide)) u, below_cell h.below h.ge.2.1 u, h.g0, h.ge, h.ne⟩
theorem DA.setC (h : DA w bR bl bc bL L cs lv W) (i : Nat) (u : Value) {cs' : Array Value} (e : cs.setIfInBounds i u = cs') : DA w bR bl bc bL L cs' lv (W.setCell ⟨bc, i, none⟩ u) :=
  ⟨blk_off h.res h.ne u, blk_off h.lst (blk_ne h.lst h.cmd (by decide)) u, blk_put h.cmd i u e, blk_off h.row (blk_ne h.row h.cmd (by decide)) u, below_cell h.below h.ge.2.2 u, h.g0, h.ge, h.ne⟩
/-- Beside them: was a word wanting; the closure. -/
structure DB (w : World) (bR bl bc bL bw bn : Nat) (L : List ByteArray) (cs : Array Value) (lv : Value) (wr : Bool) (fv : Value) (W : World) : Prop where
  a : DA w bR bl bc bL L cs lv W
  wrg : W.heap[bw]? = some (.cells #[.bool wr] 4 (0, 0))
  nxt : W.heap[bn]? = some (.cells #[fv] 49 (0, 0))
  gw : w.heap.size ≤ bw
theorem DB.step (h : DB w bR bl bc bL bw bn L cs lv wr fv W) (hb : Below W.heap.size W W') : DB w bR bl bc bL bw bn L cs lv wr fv W' := ⟨h.a.step hb, blk_below h.wrg hb, blk_below h.nxt hb, h.gw⟩
theorem DB.setL (h : DB w bR bl bc bL bw bn L cs lv wr fv W) (u : Value) : DB w bR bl bc bL bw bn L cs u wr fv (W.setCell ⟨bl, 0, none⟩ u) :=
  ⟨h.a.setL u, blk_off h.wrg (blk_ne h.wrg h.a.lst (by decide)) u, blk_off h.nxt (blk_ne h.nxt h.a.lst (by decide)) u, h.gw⟩
theorem DB.setC (h : DB w bR bl bc bL bw bn L cs lv wr fv W) (i : Nat) (u : Value) {cs' : Array Value} (e : cs.setIfInBounds i u = cs') : DB w bR bl bc bL bw bn L cs' lv wr fv (W.setCell ⟨bc, i, none⟩ u) :=
  ⟨h.a.setC i u e, blk_off h.wrg (blk_ne h.wrg h.a.cmd (by decide)) u, blk_off h.nxt (blk_ne h.nxt h.a.cmd (by decide)) u, h.gw⟩
theorem DB.setW (h : DB w bR bl bc bL bw bn L cs lv wr fv W) (b : Bool) : DB w bR bl bc bL bw bn L cs lv b fv (W.setCell ⟨bw, 0, none⟩ (.bool b)) :=
  ⟨⟨blk_off h.a.res (blk_ne h.a.res h.wrg (by decide)) _, blk_off h.a.lst (blk_ne h.a.lst h.wrg (by decide)) _, blk_off h.a.cmd (blk_ne h.a.cmd h.wrg (by decide)) _, blk_off h.a.row (blk_ne h.a.row h.wrg (by decide)) _, below_cell h.a.below h.gw _, h.a.g0, h.a.ge, h.a.ne⟩,
   blk_put h.wrg 0 _ rfl, blk_off h.nxt (blk_ne h.nxt h.wrg (by decide)) _, h.gw⟩
end
/-- What is left of n texts behind j of them. -/
def lvAt (bL n j : Nat) : Value := .slice (some ⟨bL, min j (n - 1), none⟩) (n - j) (n - j)
theorem cut_one (bL n j : Nat) (hj : j < n) (W : World) : (Instr.slice 40 (lvAt bL n j) (some (.int .i64 1)) none none).run Tryd.prog W = .ok (lvAt bL n (j + 1)) W := by
  obtain ⟨i0, hi, h1, h2, h3⟩ := info_parts info9
  unfold lvAt
  have hu : Tryd.prog.underlying 40 = some (.slice (Tryd.prog.elem 40)) := by rw [show Tryd.prog.elem 40 = 9 from by simp [Program.elem, Tryd.underlying40]]; exact Tryd.underlying40
  rw [run_slice_l W 40 _ (n - j) (n - j) hu .i64 1 (by omega) (by omega), show Tryd.prog.elem 40 = 9 from by simp [Program.elem, Tryd.underlying40]]
  simp [sizeOf, typeInfo, hi, h2, sliced, Result.andThen]
  refine ⟨?_, by omega⟩
  by_cases h : n - j = 1
  · rw [if_pos h, show min j (n - 1) = min (j + 1) (n - 1) from by omega]
  · rw [if_neg h, show min (j + 1) (n - 1) = min j (n - 1) + 1 from by omega]
    rfl
set_option maxHeartbeats 8000000 in
set_option maxRecDepth 100000 in
set_option linter.unusedSimpArgs false in
theorem next_calls (x kind : Int) (b : Bool) (hb : (bits .and .i64 (maskOf kind) x == 0) = !b) (hk : 0 ≤ kind ∧ kind ≤ 13) {w : World} {bR bl bc bL bw bn : Nat} {L : List ByteArray} {c1 c2 c3 c4 c5 c6 c7 : Value} {j : Nat} {wr : Bool} {fv : Value} (W : World)
    (h : DB w bR bl bc bL bw bn L #[.int .i64 kind, c1, c2, c3, c4, c5, c6, c7] (lvAt bL L.length j) wr fv W) (hj : j ≤ L.length) (hL : L.length ≤ 4294967296) :
    Calls Tryd.prog 29 #[.int .i64 x, .pointer (some ⟨bc, 0, none⟩), .pointer (some ⟨bl, 0, none⟩), .pointer (some ⟨bw, 0, none⟩)] W fun e W' =>
      e = .returned (.string (if b then L.getD j ByteArray.empty else ByteArray.empty)) ∧ DB w bR bl bc bL bw bn L #[.int .i64 kind, c1, c2, c3, c4, c5, c6, c7] (lvAt bL L.length (if b then min (j + 1) L.length else j)) (wr || (b && decide (L.length ≤ j))) fv W' := by
  have HD : Hid (∀ W, Glob W → Calls Tryd.prog 22 #[.int .i64 kind] W fun e w' => e = .returned (.int .i64 (maskOf kind)) ∧ Drawn0 W w') := Lib.hid fun W hW => wire_words.calls kind _ W hW (if_pos hk)
  have d0 : W.cell? ⟨bc, 0, none⟩ = some (.int .i64 kind) := (blk_cell h.a.cmd 0).trans rfl
  have HDB := Lib.hid h; clear h hk
  cases b with
  | false =>
    have hb' : (bits .and .i64 (maskOf kind) x == 0) = true := hb
    clear hb
    go_enter Tryd.func29, Tryd.ntmps29
    go_wp2_with (go_at_call 22; refine (HD.out _ HDB.out.a.glob).mono ?_; rintro e w1 ⟨rfl, hb⟩; have HDB1 := Lib.hid (HDB.out.step hb.below); clear hb HDB)
    go_ret
    exact ⟨rfl, by simpa using HDB1.out⟩
  | true =>
    have hb' : (bits .and .i64 (maskOf kind) x == 0) = false := hb
    clear hb
    rcases Nat.lt_or_ge j L.length with hlt | hge
    · obtain ⟨m, hm⟩ : ∃ m, m = L.length - j := ⟨_, rfl⟩
      have e0 : lvAt bL L.length j = .slice (some ⟨bL, j, none⟩) m m := by unfold lvAt; rw [hm, Nat.min_eq_left (by omega)]
      have hcut := fun W => cut_one bL L.length j hlt W
      obtain ⟨o', m', hlv'⟩ : ∃ o' m', lvAt bL L.length (j + 1) = .slice (some ⟨bL, o', none⟩) m' m' := ⟨_, _, rfl⟩
      rw [e0, hlv'] at hcut
      obtain ⟨s, hs⟩ : ∃ s, L.getD j ByteArray.empty = s := ⟨_, rfl⟩
      have HS : Hid ((L.map Value.string).toArray[j]? = some (.string s)) := Lib.hid (by
        rw [← hs]
        simp [List.getD_eq_getElem?_getD, hlt])
      have hj1 : min (j + 1) L.length = j + 1 := Nat.min_eq_left (by omega)
      have hw0 : decide (L.length ≤ j) = false := decide_eq_false (by omega)
      have hlen : ((m : Int) == 0) = false := by rw [beq_eq_false_iff_ne]; omega
      have hm0 : 0 < m := by omega
      rw [if_pos rfl, if_pos rfl, hs, hj1, hlv', hw0, Bool.and_false, Bool.or_false]
      rw [e0] at HDB
      clear hs hj1 hw0 hlt e0 hlv' hm hj hL
      go_enter Tryd.func29, Tryd.ntmps29
      go_upto_region 6 with (go_at_call 22; refine (HD.out _ HDB.out.a.glob).mono ?_; rintro e w1 ⟨rfl, hb⟩; have HDB1 := Lib.hid (HDB.out.step hb.below); clear hb HDB; have d1 : w1.cell? ⟨bl, 0, none⟩ = some (.slice (some ⟨bL, j, none⟩) m m) := (blk_cell HDB1.out.a.lst 0).trans rfl)
      clear d1 d0
      go_cut [5] (fun v5 wc => v5 = .string s ∧ Hid (DB w bR bl bc bL bw bn L #[.int .i64 kind, c1, c2, c3, c4, c5, c6, c7] (.slice (some ⟨bL, o', none⟩) m' m') wr fv wc))
      case first =>
        have hdb := HDB1.out.step (below_drew1 (Below.refl _ _))
        clear HDB1
        try go_wp2
        refine start_ (n := 7) (S := fun w' => w'.cell? ⟨bl, 0, none⟩ = some (.slice (some ⟨bL, j, none⟩) m m) ∧ w'.cell? ⟨bL, j, none⟩ = some (.string s)) (ds := [6]) #[false, false, false, false, false, false, false] (by kernel_rfl) rfl rfl ⟨(blk_cell hdb.a.lst 0).trans rfl, (blk_cell hdb.a.row j).trans HS.out⟩ (fun hHeld => ?_); refine with_tabW next6_tab next6_bits (fun HT_ HW_ => ?_)
        generalize w1.drew = w3 at hdb hHeld ⊢
        (refine take_ (i := 0) (N := some 15) (v := ?_) (a' := ?_) (fl_ 7 1) rfl rfl (take_ofW HT_.out HW_.out (by kernel_rfl)) (fun _ _ _ h => h) (Or.inl ⟨by rfl, ?_⟩) hHeld ?_ ?_; rotate_left; (· (rintro w' ⟨s0, s1⟩; go_simp; with_reducible rfl)); rotate_left; (· (simp only [Act.put, List.setIfInBounds_toArray, List.set_cons_zero, List.set_cons_succ, i64_w, i32_w]; rfl)))
        (refine pure_ (i := 1) (N := some 16) (v := ?_) (a' := ?_) (fl_ 7 3) rfl rfl (any_of HT_.out (by kernel_rfl)) (fun _ _ _ h => h) (Or.inl ⟨by rfl, ?_⟩) ?_ ?_; rotate_left; (· (intro w'; go_simp; with_reducible rfl)); rotate_left; (· (simp only [Act.put, List.setIfInBounds_toArray, List.set_cons_zero, List.set_cons_succ, i64_w, i32_w]; rfl)))
        (refine take_ (i := 2) (N := some 17) (v := ?_) (a' := ?_) (fl_ 7 7) rfl rfl (take_ofW HT_.out HW_.out (by kernel_rfl)) (fun _ _ _ h => h) (Or.inl ⟨by rfl, ?_⟩) hHeld ?_ ?_; rotate_left; (· (rintro w' ⟨s0, s1⟩; go_simp; with_reducible rfl)); rotate_left; (· (simp only [Act.put, List.setIfInBounds_toArray, List.set_cons_zero, List.set_cons_succ, i64_w, i32_w]; rfl)))
        (refine pure_ (i := 5) (N := some 5) (v := ?_) (a' := ?_) (fl_ 7 39) rfl rfl (any_of HT_.out (by kernel_rfl)) (fun _ _ _ h => h) (Or.inl ⟨by rfl, ?_⟩) ?_ ?_; rotate_left; (· (intro w'; go_simp; with_reducible rfl)); rotate_left; (· (simp only [Act.put, List.setIfInBounds_toArray, List.set_cons_zero, List.set_cons_succ, i64_w, i32_w]; rfl)))
        (refine take_ (i := 3) (N := some 18) (v := ?_) (a' := ?_) (fl_ 7 47) rfl rfl (take_ofW HT_.out HW_.out (by kernel_rfl)) (fun _ _ _ h => h) (Or.inl ⟨by rfl, ?_⟩) hHeld ?_ ?_; rotate_left; (· (rintro w' ⟨s0, s1⟩; go_simp; with_reducible rfl)); rotate_left; (· (simp only [Act.put, List.setIfInBounds_toArray, List.set_cons_zero, List.set_cons_succ, i64_w, i32_w]; rfl)))
        (refine pure_ (i := 4) (N := some 19) (v := ?_) (a' := ?_) (fl_ 7 63) rfl rfl (any_of HT_.out (by kernel_rfl)) (fun _ _ _ h => h) (Or.inl ⟨by rfl, ?_⟩) ?_ ?_; rotate_left; (· (intro w'; go_simp; with_reducible rfl)); rotate_left; (· (simp only [Act.put, List.setIfInBounds_toArray, List.set_cons_zero, List.set_cons_succ, i64_w, i32_w]; rfl)))
        refine last_ (i := 6) (N := none) (fl_ 7 127) rfl rfl (one_of HT_.out (by kernel_rfl)) (by decide) (fun K hK => ?_)
        have d3 : w3.frozen? ⟨bl, 0, none⟩ = false := blk_frozen hdb.a.lst 0
        have d4 : w3.cell? ⟨bl, 0, none⟩ = some (.slice (some ⟨bL, j, none⟩) m m) := hHeld.1
        refine skip_ (w1 := w3.setCell ⟨bl, 0, none⟩ (.slice (some ⟨bL, o', none⟩) m' m')) (by rfl) rfl ?hr ?_
        case hr => (go_simp; try with_reducible rfl)
        have hdb' := hdb.setL (.slice (some ⟨bL, o', none⟩) m' m')
        clear hdb
        have hdb := hdb'
        clear hdb'
        refine hK.out _ _ ?_
        clear hK K
        refine done_ (done_of HT_.out (by kernel_rfl)) ?_
        try go_wp2
        go_meet
        case rel => exact ⟨rfl, Lib.hid hdb⟩
      case rest =>
        obtain ⟨rfl, HDB2⟩ := hcut
        go_wp2
        go_ret
        exact ⟨rfl, HDB2.out⟩
    · have hjn : j = L.length := by omega
      subst hjn
      have e0 : lvAt bL L.length L.length = .slice (some ⟨bL, L.length - 1, none⟩) 0 0 := by unfold lvAt; rw [Nat.sub_self, Nat.min_eq_right (by omega)]
      have hw0 : decide (L.length ≤ L.length) = true := decide_eq_true (Nat.le_refl _)
      have hj1 : min (L.length + 1) L.length = L.length := Nat.min_eq_right (by omega)
      have hs : L.getD L.length ByteArray.empty = ByteArray.empty := by simp [List.getD_eq_getElem?_getD]
      rw [if_pos rfl, if_pos rfl, hs, hj1, hw0, Bool.and_true, Bool.or_true, e0]
      rw [e0] at HDB
      obtain ⟨o, ho⟩ : ∃ o, o = L.length - 1 := ⟨_, rfl⟩
      rw [← ho] at HDB ⊢
      clear hs hj1 hw0 hge e0 ho hj hL
      go_enter Tryd.func29, Tryd.ntmps29
      go_wp2_with (go_at_call 22; refine (HD.out _ HDB.out.a.glob).mono ?_; rintro e w1 ⟨rfl, hb⟩; have HDB1 := Lib.hid (HDB.out.step hb.below); clear hb HDB; have d1 : w1.cell? ⟨bl, 0, none⟩ = some (.slice (some ⟨bL, o, none⟩) 0 0) := (blk_cell HDB1.out.a.lst 0).trans rfl; have d2 : w1.cell? ⟨bw, 0, none⟩ = some (.bool wr) := (blk_cell HDB1.out.wrg 0).trans rfl; have d3 : w1.frozen? ⟨bw, 0, none⟩ = false := blk_frozen HDB1.out.wrg 0)
      go_ret
      exact ⟨rfl, HDB1.out.setW true⟩
/-- The next word of L, if b: the word; how many are taken, was one wanting. -/
def nextS (L : List ByteArray) (b : Bool) (st : Nat × Bool) : ByteArray × Nat × Bool := (if b then L.getD st.1 ByteArray.empty else ByteArray.empty, if b then min (st.1 + 1) L.length else st.1, st.2 || (b && decide (L.length ≤ st.1)))
theorem nextS_le {L : List ByteArray} {b : Bool} {j j' : Nat} {wr wr' : Bool} {q : ByteArray} (h : nextS L b (j, wr) = (q, j', wr')) (hj : j ≤ L.length) : j' ≤ L.length := by
  have e : (if b then min (j + 1) L.length else j) = j' := congrArg (fun x => x.2.1) h
  rw [← e]
  split <;> omega
theorem nextS_size {L : List ByteArray} {b : Bool} {j j' : Nat} {wr wr' : Bool} {q : ByteArray} (h : nextS L b (j, wr) = (q, j', wr')) (hS : ∀ s ∈ L, s.size ≤ 1000000) : q.size ≤ 1000000 := by
  have e : (if b then L.getD j ByteArray.empty else ByteArray.empty) = q := congrArg (fun x => x.1) h
  rw [← e]
  split
  · rw [List.getD_eq_getElem?_getD]
    cases hx : L[j]? with
    | none => exact Nat.zero_le _
    | some y => exact hS y (List.mem_of_getElem? hx)
  · exact Nat.zero_le _
def nextV (bc bl bw : Nat) : Value := .func (.func 29) #[] #[.pointer (some ⟨bc, 0, none⟩), .pointer (some ⟨bl, 0, none⟩), .pointer (some ⟨bw, 0, none⟩)]
theorem next_at {x kind : Int} {b : Bool} (hb : (bits .and .i64 (maskOf kind) x == 0) = !b) (hk : 0 ≤ kind ∧ kind ≤ 13) {L : List ByteArray} {j j' : Nat} {wr wr' : Bool} {q : ByteArray} (hst : nextS L b (j, wr) = (q, j', wr')) (hj : j ≤ L.length) (hL : L.length ≤ 4294967296)
    (w : World) (bR bl bc bL bw bn : Nat) (c1 c2 c3 c4 c5 c6 c7 fv : Value) (W : World) (h : DB w bR bl bc bL bw bn L #[.int .i64 kind, c1, c2, c3, c4, c5, c6, c7] (lvAt bL L.length j) wr fv W) :
    Calls Tryd.prog 29 #[.int .i64 x, .pointer (some ⟨bc, 0, none⟩), .pointer (some ⟨bl, 0, none⟩), .pointer (some ⟨bw, 0, none⟩)] W fun e W' =>
      e = .returned (.string q) ∧ DB w bR bl bc bL bw bn L #[.int .i64 kind, c1, c2, c3, c4, c5, c6, c7] (lvAt bL L.length j') wr' fv W' := by
  have e1 : (if b then L.getD j ByteArray.empty else ByteArray.empty) = q := congrArg (fun x => x.1) hst
  have e2 : (if b then min (j + 1) L.length else j) = j' := congrArg (fun x => x.2.1) hst
  have e3 : (wr || (b && decide (L.length ≤ j))) = wr' := congrArg (fun x => x.2.2) hst
  have := next_calls x kind b hb hk W h hj hL
  rw [e1, e2, e3] at this
  exact this
set_option maxHeartbeats 4000000 in
set_option maxRecDepth 100000 in
theorem count_at {x kind : Int} {b : Bool} (hb : (bits .and .i64 (maskOf kind) x == 0) = !b) (hk : 0 ≤ kind ∧ kind ≤ 13) {L : List ByteArray} {j j' : Nat} {wr wr' : Bool} {q : ByteArray} (hst : nextS L b (j, wr) = (q, j', wr')) (hj : j ≤ L.length) (hL : L.length ≤ 4294967296) (hS : ∀ s ∈ L, s.size ≤ 1000000) {n : Int} (hn : (parseOf q.data.toList).1 = n)
    (w : World) (bR bl bc bL bw bn : Nat) (c1 c2 c3 c4 c5 c6 c7 : Value) (W : World) (h : DB w bR bl bc bL bw bn L #[.int .i64 kind, c1, c2, c3, c4, c5, c6, c7] (lvAt bL L.length j) wr (nextV bc bl bw) W) :
    Calls Tryd.prog 30 #[.int .i64 x, .pointer (some ⟨bn, 0, none⟩)] W fun e W' =>
      e = .returned (.int .i64 n) ∧ DB w bR bl bc bL bw bn L #[.int .i64 kind, c1, c2, c3, c4, c5, c6, c7] (lvAt bL L.length j') wr' (nextV bc bl bw) W' := by
  have HN := Lib.hid (next_at hb hk hst hj hL w bR bl bc bL bw bn c1 c2 c3 c4 c5 c6 c7 (nextV bc bl bw) W h)
  have hq := nextS_size hst hS
  obtain ⟨er, hp⟩ : ∃ er, parseOf q.data.toList = (n, er) := ⟨(parseOf q.data.toList).2, by rw [← hn]⟩
  have HP : Hid (∀ W, Glob W → Calls Tryd.prog 31 #[.string q] W fun e w' => e = .returned (.tuple #[.int .i64 n, .int .i64 er]) ∧ Below W.heap.size W w') := Lib.hid fun W hW => coin_Parse.calls q n er W hW (by unfold coin_Parse.f; rw [if_pos (by omega), hp])
  have d0 : W.cell? ⟨bn, 0, none⟩ = some (nextV bc bl bw) := (blk_cell h.nxt 0).trans rfl
  unfold nextV at d0
  clear h hb hk hst hj hL hS hq hp hn
  go_enter Tryd.func30, Tryd.ntmps30
  go_wp2_with (first | (go_at_call 29; refine (HN.out).mono ?_; rintro e w1 ⟨rfl, hdb⟩; have HDB := Lib.hid hdb; clear hdb) | (go_at_call 31; refine (HP.out _ HDB.out.a.glob).mono ?_; rintro e w2 ⟨rfl, hb⟩; have HDB2 := Lib.hid (HDB.out.step hb); clear hb HDB))
  go_ret
  exact ⟨rfl, HDB2.out⟩
end Go.Proofs.YtdpdbmdnmgaeiaaDoor.E
namespace Go.Proofs.YtdpdbmdnmgaeiaaDoor.E
open Go.RowKit Go.Proofs.YtdpdbmdnmgaeiaaDoorW.PrintWords Go.Proofs.YtdpdbmdnmgaeiaaDoorW.PrintLast
structure Cmd where
  k : Int
  rq : ByteArray
  wh : ByteArray
  sc : ByteArray
  mk' : ByteArray
  pr : Int
  am : Int
  nu : Int
def Cmd.cs (c : Cmd) : Array Value := #[.int .i64 c.k, .string c.rq, .string c.wh, .string c.sc, .string c.mk', .int .i64 c.pr, .int .i64 c.am, .int .u64 c.nu]
def Cmd.ok (c : Cmd) : Bool := okCmd c.k c.rq c.wh c.sc c.mk' c.pr c.am c.nu
def Cmd.enc (c : Cmd) : ByteArray := encB c.k c.rq c.wh c.sc c.mk' c.pr c.am c.nu
def Cmd.zero : Cmd := ⟨0, ⟨#[]⟩, ⟨#[]⟩, ⟨#[]⟩, ⟨#[]⟩, 0, 0, 0⟩
/-- The kind that a first word is, of those below n; 0: none. -/
def kindTo (x : ByteArray) : Nat → Nat
  | 0 => 0
  | n + 1 => if (firsts.getD n ByteArray.empty).toList == x.toList && decide (0 < n) then n else kindTo x n
theorem kindTo_lt (x : ByteArray) : ∀ n, kindTo x n = 0 ∨ kindTo x n < n
  | 0 => .inl rfl
  | n + 1 => by
    unfold kindTo
    split
    · exact .inr (by omega)
    · rcases kindTo_lt x n with h | h <;> omega
def kindOf (L : List ByteArray) : Int := (kindTo (L.getD 0 ByteArray.empty) 14 : Nat)
theorem kindOf_le (L : List ByteArray) : 0 ≤ kindOf L ∧ kindOf L ≤ 13 := by
  unfold kindOf
  rcases kindTo_lt (L.getD 0 ByteArray.empty) 14 with h | h <;> omega
/-- Behind the first n words: the last one, how many texts are taken, was one wanting. -/
def stTo (L : List ByteArray) (K : Int) : Nat → Nat × Bool
  | 0 => (1, K == 0)
  | n + 1 => (nextS L (hasW K n) (stTo L K n)).2
def wdAt (L : List ByteArray) (K : Int) (n : Nat) : ByteArray := (nextS L (hasW K n) (stTo L K n)).1
def amtOf (q : ByteArray) : Int := (parseOf q.data.toList).1
def candL (L : List ByteArray) : Cmd := ⟨kindOf L, wdAt L (kindOf L) 0, wdAt L (kindOf L) 1, wdAt L (kindOf L) 2, wdAt L (kindOf L) 3, amtOf (wdAt L (kindOf L) 4), amtOf (wdAt L (kindOf L) 5), IntKind.u64.wrap (amtOf (wdAt L (kindOf L) 6))⟩
def wrongL (L : List ByteArray) : Bool := (stTo L (kindOf L) 7).2
def decS (s : ByteArray) : Cmd × Int :=
  if !wrongL (splitOn s 32) && (candL (splitOn s 32)).ok && ((candL (splitOn s 32)).enc.toList == s.toList) then (candL (splitOn s 32), 0) else (Cmd.zero, 200)
end Go.Proofs.YtdpdbmdnmgaeiaaDoor.E
