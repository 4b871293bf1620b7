/- The walk of (*slip.reader).slip: a statement's lines are taken, or it is given up. -/
import Derived.Test.YtnngbnhbmgdkoaaGreatDoorSWords
import Derived.BigQuiet
import Derived.Deep.QuietTactic
namespace Go.Proofs.YtnngbnhbmgdkoaaGreatDoor.E
open Go.RowKit Go.Proofs.YtnngbnhbmgdkoaaGreatDoor.P Go.Proofs.YtnngbnhbmgdkoaaGreatDoorW.PrintWords Go.Proofs.YtnngbnhbmgdkoaaGreatDoorW.PrintLast
theorem cutS_sizes (c : UInt8) : ∀ (l : List UInt8), ∀ x ∈ cutAt c l, x.length ≤ l.length
  | [], x, h => by
    rw [List.mem_singleton.1 h]
    exact Nat.le_refl _
  | b :: l, x, h => by
    have ih := cutS_sizes c l
    by_cases hb : b = c
    · subst hb
      rw [cutAt_cons_eq] at h
      rcases List.mem_cons.1 h with rfl | h
      · exact Nat.zero_le _
      · have := ih x h
        simp only [List.length_cons]
        omega
    · obtain ⟨y, t, e1, e2⟩ := cutAt_cons_ne hb l
      rw [e2] at h
      rw [e1] at ih
      rcases List.mem_cons.1 h with rfl | h
      · have := ih y (List.mem_cons_self ..)
        simp only [List.length_cons]
        omega
      · have := ih x (List.mem_cons_of_mem _ h)
        simp only [List.length_cons]
        omega
theorem splitS_sizes {s x : ByteArray} {c : UInt8} (h : x ∈ splitOn s c) : x.size ≤ s.size := by
  unfold splitOn at h
  obtain ⟨l, hl, rfl⟩ := List.mem_map.1 h
  have := cutS_sizes c _ l hl
  rw [size_len] at this
  show l.toArray.size ≤ _
  simpa using this
/-- A line of so many words is taken. -/
def takeW (first : ByteArray) (count : Nat) : List ByteArray → Option (List ByteArray × List ByteArray)
  | [] => none
  | s :: t => if okW first count (splitOn s 32) = true then some ((splitOn s 32).drop 1, t) else none
def lineP : List ByteArray → Option Line_
  | [n, r, m] => match uintP n with
    | none => none
    | some u => match amtP m with
      | none => none
      | some v => some ⟨(u : Int), r, v⟩
  | _ => none
/-- The lines of a statement that come next, and what is left. -/
def postsP : List ByteArray → Option (List Line_ × List ByteArray)
  | [] => some ([], [])
  | s :: t => if nextB ⟨#[80, 79, 83, 84]⟩ (s :: t) = true then (if okW ⟨#[80, 79, 83, 84]⟩ 4 (splitOn s 32) = true then (match lineP ((splitOn s 32).drop 1) with
      | none => none
      | some x => (postsP t).map fun r => (x :: r.1, r.2)) else none) else some ([], s :: t)
abbrev Slip6 := ByteArray × ByteArray × Int × Int × List Line_ × Int
/-- The statement that lines are: none of it: given up. -/
def slipR (k : Nat) (L : List ByteArray) : Option (Option Slip6) :=
  match takeW ⟨#[83, 84, 65, 84, 69, 77, 69, 78, 84]⟩ 4 L with
  | none => some none
  | some x => match uintP (x.1.getD 2 ⟨#[]⟩) with
    | none => some none
    | some day => match takeW ⟨#[79, 80, 69, 78]⟩ 2 x.2 with
      | none => some none
      | some y => match amtP (y.1.getD 0 ⟨#[]⟩) with
        | none => some none
        | some op => match postsP y.2 with
          | none => some none
          | some z => match takeW ⟨#[67, 76, 79, 83, 69]⟩ 2 z.2 with
            | none => some none
            | some v => match amtP (v.1.getD 0 ⟨#[]⟩) with
              | none => some none
              | some cl => if v.2 = [] then (slip_Check.f k (x.1.getD 0 ⟨#[]⟩) (x.1.getD 1 ⟨#[]⟩) (day : Int) op z.1 cl).map fun c => if c = 0 then some (x.1.getD 0 ⟨#[]⟩, x.1.getD 1 ⟨#[]⟩, (day : Int), op, z.1, cl) else none else some none
/-- How it ends. -/
def SEnd (w0 : World) (R : Option Slip6) (e : Ending) (w' : World) : Prop := Below w0.heap.size w0 w' ∧ match R with
  | none => e = gaveUp
  | some r => e = .returned (.tuple #[]) ∧ ∃ x0 v, RdS w0 #[x0, .string r.1, .string r.2.1, .int .u64 r.2.2.1, .int .i64 r.2.2.2.1, v, .int .i64 r.2.2.2.2.2] w' ∧ Kd.R k37 37 w' (w0.heap.size + 1) (fun k => k ≠ w0.heap.size) v r.2.2.2.2.1
theorem okW_len {first : ByteArray} {count : Nat} {ws : List ByteArray} (h : okW first count ws = true) : (ws.drop 1).length = count - 1 := by
  unfold okW at h
  rw [Bool.and_eq_true, decide_eq_true_eq] at h
  rw [List.length_drop, h.1]
theorem threeS {t : List ByteArray} (h : t.length = 3) : ∃ a b c, t = [a, b, c] := by
  match t, h with
  | [a, b, c], _ => exact ⟨a, b, c, rfl⟩
theorem oneS {t : List ByteArray} (h : t.length = 1) : ∃ a, t = [a] := by
  match t, h with
  | [a], _ => exact ⟨a, rfl⟩
theorem add_plain (b o j : Nat) : (⟨b, o, none⟩ : Addr).add j = ⟨b, o + j, none⟩ := by unfold Addr.add; simp
theorem cells3 {w : World} {A : Option Addr} {a b d : ByteArray} (h : Kd.C Kd.string w A [a, b, d].length [a, b, d]) : ∃ ab ao, A = some ⟨ab, ao, none⟩ ∧ w.cell? ⟨ab, ao, none⟩ = some (.string a) ∧ w.cell? ⟨ab, ao + 1, none⟩ = some (.string b) ∧ w.cell? ⟨ab, ao + 2, none⟩ = some (.string d) := by
  rcases str_cells h with h0 | ⟨ad, rfl, hc⟩
  · simp at h0
  · have h00 := hc 0 (by simp)
    have e : ad.add 0 = ad := by unfold Addr.add; simp
    rw [e] at h00
    obtain ⟨ab, ao, rfl⟩ := spot_none h00
    have h1 := hc 1 (by simp)
    have h2 := hc 2 (by simp)
    rw [add_plain] at h1 h2
    exact ⟨ab, ao, rfl, h00, h1, h2⟩
theorem cells1 {w : World} {A : Option Addr} {a : ByteArray} (h : Kd.C Kd.string w A [a].length [a]) : ∃ ab ao, A = some ⟨ab, ao, none⟩ ∧ w.cell? ⟨ab, ao, none⟩ = some (.string a) := by
  rcases str_cells h with h0 | ⟨ad, rfl, hc⟩
  · simp at h0
  · have h00 := hc 0 (by simp)
    have e : ad.add 0 = ad := by unfold Addr.add; simp
    rw [e] at h00
    obtain ⟨ab, ao, rfl⟩ := spot_none h00
    exact ⟨ab, ao, rfl, h00⟩
theorem goesP_ {P : Program} {ops : Array Oper} {Q : Exit → Act → World → Prop} {oi : Oper} {N : Option Tmp} {a : Act} {w : World} {K : Act → World → Prop} {f : FuncId} {fn : Func} {xs : Array Operand} {ts : Array TypeId} (hf : P.funcs[f]? = some fn) (hname : (fn.name == "runtime.NumGoroutine") = false) (hb : fn.body.isSome = true) (args : Array Value)
    (hw : Region.wanted oi (yielded ops a.tmps) = true) (hop : oi.op = .call { callee := .value (.func f), args := xs, argTypes := ts }) (hargs : xs.map a.eval = args)
    (h : Calls P f args w fun e w' => ∃ ch, e = .panicked ch ∧ Q (.panic ch) a w') : if Region.wanted oi (yielded ops a.tmps) = true then Oper.wp P oi a w K Q else K (a.put N undef) w := by
  rw [if_pos hw]
  have he := enters_ hf hname hb args w
  have hrun : (execOp a.eval oi).run P w = .ok (.enter f args) w := by
    unfold execOp
    simp [hop, resolve, Deferred.ofValue, invoke, Act.eval, hargs, he]
  unfold Oper.wp
  rw [hrun, Oper.upon_enter]
  refine h.mono fun e w' hh => ?_
  obtain ⟨ch, rfl, hq⟩ := hh
  exact hq
/-- How many lines are left. -/
def linesLeft (w0 W : World) : Nat := match W.cell? ⟨w0.heap.size, 0, none⟩ with
  | some (.slice _ n _) => n
  | _ => 0
theorem linesLeft_is {w0 W : World} {A : Option Addr} {n c : Nat} {x1 x2 x3 x4 x5 x6 : Value} (h : RdS w0 #[.slice A n c, x1, x2, x3, x4, x5, x6] W) : linesLeft w0 W = n := by
  unfold linesLeft
  rw [blk_cell h.blk 0]
  rfl
theorem hold_alloc {W : World} {o : Obj} {p0 p1 p2 p3 : Addr} {x0 x1 x2 x3 : Value} (h : W.cell? p0 = some x0 ∧ W.cell? p1 = some x1 ∧ W.cell? p2 = some x2 ∧ W.cell? p3 = some x3) : (W.alloc o).cell? p0 = some x0 ∧ (W.alloc o).cell? p1 = some x1 ∧ (W.alloc o).cell? p2 = some x2 ∧ (W.alloc o).cell? p3 = some x3 :=
  ⟨(World.cell?_alloc_lt _ _ _ (World.block_lt_of_cell? _ _ h.1)).trans h.1, (World.cell?_alloc_lt _ _ _ (World.block_lt_of_cell? _ _ h.2.1)).trans h.2.1, (World.cell?_alloc_lt _ _ _ (World.block_lt_of_cell? _ _ h.2.2.1)).trans h.2.2.1, (World.cell?_alloc_lt _ _ _ (World.block_lt_of_cell? _ _ h.2.2.2)).trans h.2.2.2⟩
def slp1_T : Bool × List (List Nat × List Nat) := (true, [([], []), ([], []), ([], []), ([], []), ([3], [3]), ([4], [4]), ([], []), ([6], [6]), ([7], [7]), ([], []), ([9], [9]), ([10], [10]), ([11], [11]), ([0, 0, 3, 4, 5, 8, 11, 12], [0]), ([13, 0, 3, 4, 5, 8, 11, 12], [13]), ([14, 0, 3, 4, 5, 8, 11, 12], [14]), ([15, 5, 12, 0, 3, 4, 5, 8, 11, 12], [5, 15]), ([1, 0, 1, 3, 4, 5, 6, 7, 8, 11, 12, 13, 14, 15, 16], [1]), ([17, 0, 1, 3, 4, 5, 6, 7, 8, 11, 12, 13, 14, 15, 16], [17]), ([18, 0, 1, 3, 4, 5, 6, 7, 8, 11, 12, 13, 14, 15, 16], [18]), ([19, 8, 16, 0, 1, 3, 4, 5, 6, 7, 8, 11, 12, 13, 14, 15, 16], [8, 19]), ([2, 0, 1, 2, 3, 4, 5, 6, 7, 8, 9, 10, 11, 12, 13, 14, 15, 16, 17, 18, 19, 20], [2]), ([21, 0, 1, 2, 3, 4, 5, 6, 7, 8, 9, 10, 11, 12, 13, 14, 15, 16, 17, 18, 19, 20], [21]), ([22, 0, 1, 2, 3, 4, 5, 6, 7, 8, 9, 10, 11, 12, 13, 14, 15, 16, 17, 18, 19, 20], [22]), ([23, 12, 20, 0, 1, 2, 3, 4, 5, 6, 7, 8, 9, 10, 11, 12, 13, 14, 15, 16, 17, 18, 19, 20], [12, 23])])
def slp1_B : List Nat := [0, 0, 0, 0, 8, 24, 0, 64, 192, 0, 512, 1536, 3584, 8185, 16377, 32761, 65529, 131067, 262139, 524283, 1048571, 2097151, 4194303, 8388607, 16777215]
theorem slp1_tab : rtab .any (opsOf Tryz.f27 1) = slp1_T := by kernel_rfl
theorem slp1_bits : waitsOk slp1_T.2 slp1_B = true := by kernel_rfl
def slp5_T : Bool × List (List Nat × List Nat) := (true, [([], []), ([], []), ([1], [1]), ([2], [2]), ([3], [3]), ([4], [4]), ([], []), ([6], [6]), ([7], [7]), ([8], [8]), ([], []), ([10], [10]), ([11], [11]), ([], []), ([13], [13]), ([14], [14]), ([15, 9], [15]), ([9, 12, 16], [9, 12, 16]), ([17], [17]), ([5, 18, 16], [5, 18]), ([0, 0, 1, 2, 3, 4, 5, 6, 7, 8, 9, 10, 11, 12, 13, 14, 15, 16, 17, 18, 19], [0]), ([20, 0, 1, 2, 3, 4, 5, 6, 7, 8, 9, 10, 11, 12, 13, 14, 15, 16, 17, 18, 19], [20]), ([21, 0, 1, 2, 3, 4, 5, 6, 7, 8, 9, 10, 11, 12, 13, 14, 15, 16, 17, 18, 19], [21]), ([22, 19, 19, 0, 1, 2, 3, 4, 5, 6, 7, 8, 9, 10, 11, 12, 13, 14, 15, 16, 17, 18, 19], [19, 22])])
def slp5_B : List Nat := [0, 0, 2, 6, 14, 30, 0, 64, 192, 448, 0, 1024, 3072, 0, 8192, 24576, 58304, 131008, 262080, 524286, 1048575, 2097151, 4194303, 8388607]
theorem slp5_tab : rtab .any (opsOf Tryz.f27 5) = slp5_T := by kernel_rfl
theorem slp5_bits : waitsOk slp5_T.2 slp5_B = true := by kernel_rfl
set_option maxHeartbeats 16000000 in
set_option maxRecDepth 100000 in
set_option linter.unusedSimpArgs false in
set_option linter.unusedVariables false in
theorem slip_calls (k : Nat) (w0 W : World) (A : Option Addr) (c : Nat) (L : List ByteArray) (hR : RdS w0 #[.slice A L.length c, .string ⟨#[]⟩, .string ⟨#[]⟩, .int .u64 0, .int .i64 0, .slice none 0 0, .int .i64 0] W) (hC : Kd.C Kd.string w0 A L.length L) (hc : L.length ≤ c) (hs : ∀ s ∈ L, s.size ≤ 1000000) (hn : L.length ≤ 1000000) (R : Option Slip6) (hk : slipR k L = some R) :
    Calls Tryz.prog 27 #[.pointer (some ⟨w0.heap.size, 0, none⟩)] W fun e w' => SEnd w0 R e w' := by
  have HRD := Lib.hid hR
  unfold slipR at hk
  cases L with
  | nil =>
    obtain rfl : R = none := (Option.some.inj hk).symm
    have HWD := Lib.hid (words_none w0 W A c _ _ _ _ _ _ ⟨#[83, 84, 65, 84, 69, 77, 69, 78, 84]⟩ 4 hR)
    clear hk hC hc hs hn hR
    go_enter Tryz.func27, Tryz.ntmps27
    go_wp2_with (go_at_call 47; refine (HWD.out).mono ?_; rintro e w1 ⟨he, h1⟩; unfold gaveUp at he; subst he; have HE := Lib.hid h1; clear h1)
    exact ⟨rfl, HE.out.below, rfl⟩
  | cons s tl =>
    obtain ⟨A1, hC1, hc1, hwd⟩ := words_some w0 W A c s tl _ _ _ _ _ _ ⟨#[83, 84, 65, 84, 69, 77, 69, 78, 84]⟩ 4 hR hC hc (hs s (List.mem_cons_self ..)) (by decide)
    by_cases hok : okW ⟨#[83, 84, 65, 84, 69, 77, 69, 78, 84]⟩ 4 (splitOn s 32) = true
    · simp only [takeW, if_pos hok] at hk
      simp only [if_pos hok] at hwd
      obtain ⟨a, b, d, hab⟩ := threeS (okW_len hok)
      have hdz : d.size ≤ 140737488351232 := by
        have h1 : d ∈ splitOn s 32 := List.mem_of_mem_drop (i := 1) (by rw [hab]; simp)
        have := splitS_sizes h1
        have := hs s (List.mem_cons_self ..)
        omega
      rw [hab] at hk hwd
      have HDZ := Lib.hid hdz; have HWD := Lib.hid hwd; have HC1 := Lib.hid hC1; have HC2 := Lib.hid hc1
      have HSZ := Lib.hid (fun x (hx : x ∈ tl) => hs x (List.mem_cons_of_mem _ hx))
      have HNL : Hid (tl.length ≤ 1000000) := Lib.hid (by simp only [List.length_cons] at hn; omega)
      have HK := Lib.hid hk
      clear hk hC hc hs hn hR hab hok hdz hwd hC1 hc1 HRD
      obtain ⟨c1, hc1⟩ : ∃ c1, c - 1 = c1 := ⟨_, rfl⟩
      rw [hc1] at HWD HC2
      clear hc1
      go_enter Tryz.func27, Tryz.ntmps27
      go_upto_region 1 with (go_at_call 47; refine (HWD.out).mono ?_; rintro e w1 ⟨hkb, hrd, Aw, cw, he, hCw, hcw⟩; subst he; have HRD := Lib.hid hrd; have HCW := Lib.hid hCw; clear hkb hrd hCw hcw HWD)
      obtain ⟨ab, ao, had, p0, p1, p2⟩ := cells3 HCW.out
      subst had
      have HPC : Hid (w1.cell? ⟨ab, ao, none⟩ = some (.string a) ∧ w1.cell? ⟨ab, ao + 1, none⟩ = some (.string b) ∧ w1.cell? ⟨ab, ao + 2, none⟩ = some (.string d)) := Lib.hid ⟨p0, p1, p2⟩
      clear p0 p1 p2 HCW
      have hk := HK.out
      simp only [List.getD_cons_zero, List.getD_cons_succ] at hk
      cases hu : uintP d with
      | none =>
        simp only [hu] at hk
        obtain rfl : R = none := (Option.some.inj hk).symm
        have HU : Hid (numEnd (uintP d) = .panicked [{ v := .iface 28 (.int .i64 190), recovered := false }]) := Lib.hid (by rw [hu]; rfl)
        clear hk HK hu
        refine start_ (n := 25) (S := fun W_ => W_.cell? ⟨ab, ao, none⟩ = some (.string a) ∧ W_.cell? ⟨ab, ao + 1, none⟩ = some (.string b) ∧ W_.cell? ⟨ab, ao + 2, none⟩ = some (.string d)) (ds := [16, 20, 24]) #[false, false, false, false, false, false, false, false, false, false, false, false, false, false, false, false, false, false, false, false, false, false, false, false, false] (by kernel_rfl) rfl rfl HPC.out (fun hHeld => ?_); refine with_tabW slp1_tab slp1_bits (fun HT_ HW_ => ?_)
        have n0_ := Lib.hid (HRD.out.step (below_drew1 (Below.refl _ _))); clear HRD; have HRD := n0_; clear n0_
        have n0_ : Hid ((fun W_ => W_.cell? ⟨ab, ao, none⟩ = some (.string a) ∧ W_.cell? ⟨ab, ao + 1, none⟩ = some (.string b) ∧ W_.cell? ⟨ab, ao + 2, none⟩ = some (.string d)) w1.drew) := Lib.hid hHeld; clear HPC; have HPC := n0_; clear n0_
        generalize w1.drew = w2 at HRD HPC hHeld ⊢
        (refine pure_ (i := 0) (N := some 8) (v := ?_) (a' := ?_) (fl_ 25 1) rfl rfl (any_of HT_.out (by kernel_rfl)) (fun _ _ _ h => h) (Or.inl ⟨by rfl, ?_⟩) ?_ ?_; rotate_left; (· (intro w'; go_simp; with_reducible rfl)); rotate_left; (· (simp only [Act.put, List.setIfInBounds_toArray, List.set_cons_zero, List.set_cons_succ, i64_w, i32_w]; rfl)))
        (refine pure_ (i := 1) (N := some 9) (v := ?_) (a' := ?_) (fl_ 25 3) rfl rfl (any_of HT_.out (by kernel_rfl)) (fun _ _ _ h => h) (Or.inl ⟨by rfl, ?_⟩) ?_ ?_; rotate_left; (· (intro w'; go_simp; with_reducible rfl)); rotate_left; (· (simp only [Act.put, List.setIfInBounds_toArray, List.set_cons_zero, List.set_cons_succ, i64_w, i32_w]; rfl)))
        (refine pure_ (i := 2) (N := some 10) (v := ?_) (a' := ?_) (fl_ 25 7) rfl rfl (any_of HT_.out (by kernel_rfl)) (fun _ _ _ h => h) (Or.inl ⟨by rfl, ?_⟩) ?_ ?_; rotate_left; (· (intro w'; go_simp; with_reducible rfl)); rotate_left; (· (simp only [Act.put, List.setIfInBounds_toArray, List.set_cons_zero, List.set_cons_succ, i64_w, i32_w]; rfl)))
        (refine pure_ (i := 3) (N := some 11) (v := ?_) (a' := ?_) (fl_ 25 15) rfl rfl (any_of HT_.out (by kernel_rfl)) (fun _ _ _ h => h) (Or.inl ⟨by rfl, ?_⟩) ?_ ?_; rotate_left; (· (intro w'; go_simp; with_reducible rfl)); rotate_left; (· (simp only [Act.put, List.setIfInBounds_toArray, List.set_cons_zero, List.set_cons_succ, i64_w, i32_w]; rfl)))
        (refine pure_ (i := 4) (N := some 12) (v := ?_) (a' := ?_) (fl_ 25 31) rfl rfl (any_of HT_.out (by kernel_rfl)) (fun _ _ _ h => h) (Or.inl ⟨by rfl, ?_⟩) ?_ ?_; rotate_left; (· (intro w'; go_simp; with_reducible rfl)); rotate_left; (· (simp only [Act.put, List.setIfInBounds_toArray, List.set_cons_zero, List.set_cons_succ, i64_w, i32_w]; rfl)))
        (refine pure_ (i := 6) (N := some 14) (v := ?_) (a' := ?_) (fl_ 25 95) rfl rfl (any_of HT_.out (by kernel_rfl)) (fun _ _ _ h => h) (Or.inl ⟨by rfl, ?_⟩) ?_ ?_; rotate_left; (· (intro w'; go_simp; with_reducible rfl)); rotate_left; (· (simp only [Act.put, List.setIfInBounds_toArray, List.set_cons_zero, List.set_cons_succ, i64_w, i32_w]; rfl)))
        (refine pure_ (i := 7) (N := some 15) (v := ?_) (a' := ?_) (fl_ 25 223) rfl rfl (any_of HT_.out (by kernel_rfl)) (fun _ _ _ h => h) (Or.inl ⟨by rfl, ?_⟩) ?_ ?_; rotate_left; (· (intro w'; go_simp; with_reducible rfl)); rotate_left; (· (simp only [Act.put, List.setIfInBounds_toArray, List.set_cons_zero, List.set_cons_succ, i64_w, i32_w]; rfl)))
        (refine pure_ (i := 9) (N := some 17) (v := ?_) (a' := ?_) (fl_ 25 735) rfl rfl (any_of HT_.out (by kernel_rfl)) (fun _ _ _ h => h) (Or.inl ⟨by rfl, ?_⟩) ?_ ?_; rotate_left; (· (intro w'; go_simp; with_reducible rfl)); rotate_left; (· (simp only [Act.put, List.setIfInBounds_toArray, List.set_cons_zero, List.set_cons_succ, i64_w, i32_w]; rfl)))
        (refine pure_ (i := 10) (N := some 18) (v := ?_) (a' := ?_) (fl_ 25 1759) rfl rfl (any_of HT_.out (by kernel_rfl)) (fun _ _ _ h => h) (Or.inl ⟨by rfl, ?_⟩) ?_ ?_; rotate_left; (· (intro w'; go_simp; with_reducible rfl)); rotate_left; (· (simp only [Act.put, List.setIfInBounds_toArray, List.set_cons_zero, List.set_cons_succ, i64_w, i32_w]; rfl)))
        (refine take_ (i := 5) (N := some 13) (v := ?_) (a' := ?_) (fl_ 25 1791) rfl rfl (take_ofW HT_.out HW_.out (by kernel_rfl)) (fun _ _ _ h => h) (Or.inl ⟨by rfl, ?_⟩) hHeld ?_ ?_; rotate_left; (· (rintro w' ⟨s0, s1, s2⟩; go_simp; with_reducible rfl)); rotate_left; (· (simp only [Act.put, List.setIfInBounds_toArray, List.set_cons_zero, List.set_cons_succ, i64_w, i32_w]; rfl)))
        (refine take_ (i := 8) (N := some 16) (v := ?_) (a' := ?_) (fl_ 25 2047) rfl rfl (take_ofW HT_.out HW_.out (by kernel_rfl)) (fun _ _ _ h => h) (Or.inl ⟨by rfl, ?_⟩) hHeld ?_ ?_; rotate_left; (· (rintro w' ⟨s0, s1, s2⟩; go_simp; with_reducible rfl)); rotate_left; (· (simp only [Act.put, List.setIfInBounds_toArray, List.set_cons_zero, List.set_cons_succ, i64_w, i32_w]; rfl)))
        (refine take_ (i := 11) (N := some 19) (v := ?_) (a' := ?_) (fl_ 25 4095) rfl rfl (take_ofW HT_.out HW_.out (by kernel_rfl)) (fun _ _ _ h => h) (Or.inl ⟨by rfl, ?_⟩) hHeld ?_ ?_; rotate_left; (· (rintro w' ⟨s0, s1, s2⟩; go_simp; with_reducible rfl)); rotate_left; (· (simp only [Act.put, List.setIfInBounds_toArray, List.set_cons_zero, List.set_cons_succ, i64_w, i32_w]; rfl)))
        refine one_ (i := 12) (N := some 20) (fl_ 25 8191) rfl rfl (one_of HT_.out (by kernel_rfl)) (by decide) (fun K hK => ?_)
        refine goesP_ Tryz.func48 (by kernel_rfl) rfl #[.string d] (by rfl) rfl (by (try simp only [List.map_toArray, List.map_cons, List.map_nil]); first | done | rfl) ?_
        refine (number_calls d HDZ.out _ HRD.out.glob).mono ?_
        rintro e w3 ⟨he, hb⟩
        rw [HU.out] at he
        subst he
        exact ⟨_, rfl, rfl, (HRD.out.step hb).below, rfl⟩
      | some day =>
        simp only [hu] at hk
        have HU : Hid (numEnd (uintP d) = .returned (.int .u64 (day : Int))) := Lib.hid (by rw [hu]; rfl)
        have HDL := Lib.hid (uintP_lt hu)
        clear HK hu
        have HK := Lib.hid hk
        clear hk
        refine start_ (n := 25) (S := fun W_ => W_.cell? ⟨ab, ao, none⟩ = some (.string a) ∧ W_.cell? ⟨ab, ao + 1, none⟩ = some (.string b) ∧ W_.cell? ⟨ab, ao + 2, none⟩ = some (.string d)) (ds := [16, 20, 24]) #[false, false, false, false, false, false, false, false, false, false, false, false, false, false, false, false, false, false, false, false, false, false, false, false, false] (by kernel_rfl) rfl rfl HPC.out (fun hHeld => ?_); refine with_tabW slp1_tab slp1_bits (fun HT_ HW_ => ?_)
        have n0_ := Lib.hid (HRD.out.step (below_drew1 (Below.refl _ _))); clear HRD; have HRD := n0_; clear n0_
        have n0_ : Hid ((fun W_ => W_.cell? ⟨ab, ao, none⟩ = some (.string a) ∧ W_.cell? ⟨ab, ao + 1, none⟩ = some (.string b) ∧ W_.cell? ⟨ab, ao + 2, none⟩ = some (.string d)) w1.drew) := Lib.hid hHeld; clear HPC; have HPC := n0_; clear n0_
        generalize w1.drew = w2 at HRD HPC hHeld ⊢
        (refine pure_ (i := 0) (N := some 8) (v := ?_) (a' := ?_) (fl_ 25 1) rfl rfl (any_of HT_.out (by kernel_rfl)) (fun _ _ _ h => h) (Or.inl ⟨by rfl, ?_⟩) ?_ ?_; rotate_left; (· (intro w'; go_simp; with_reducible rfl)); rotate_left; (· (simp only [Act.put, List.setIfInBounds_toArray, List.set_cons_zero, List.set_cons_succ, i64_w, i32_w]; rfl)))
        (refine pure_ (i := 1) (N := some 9) (v := ?_) (a' := ?_) (fl_ 25 3) rfl rfl (any_of HT_.out (by kernel_rfl)) (fun _ _ _ h => h) (Or.inl ⟨by rfl, ?_⟩) ?_ ?_; rotate_left; (· (intro w'; go_simp; with_reducible rfl)); rotate_left; (· (simp only [Act.put, List.setIfInBounds_toArray, List.set_cons_zero, List.set_cons_succ, i64_w, i32_w]; rfl)))
        (refine pure_ (i := 2) (N := some 10) (v := ?_) (a' := ?_) (fl_ 25 7) rfl rfl (any_of HT_.out (by kernel_rfl)) (fun _ _ _ h => h) (Or.inl ⟨by rfl, ?_⟩) ?_ ?_; rotate_left; (· (intro w'; go_simp; with_reducible rfl)); rotate_left; (· (simp only [Act.put, List.setIfInBounds_toArray, List.set_cons_zero, List.set_cons_succ, i64_w, i32_w]; rfl)))
        (refine pure_ (i := 3) (N := some 11) (v := ?_) (a' := ?_) (fl_ 25 15) rfl rfl (any_of HT_.out (by kernel_rfl)) (fun _ _ _ h => h) (Or.inl ⟨by rfl, ?_⟩) ?_ ?_; rotate_left; (· (intro w'; go_simp; with_reducible rfl)); rotate_left; (· (simp only [Act.put, List.setIfInBounds_toArray, List.set_cons_zero, List.set_cons_succ, i64_w, i32_w]; rfl)))
        (refine pure_ (i := 4) (N := some 12) (v := ?_) (a' := ?_) (fl_ 25 31) rfl rfl (any_of HT_.out (by kernel_rfl)) (fun _ _ _ h => h) (Or.inl ⟨by rfl, ?_⟩) ?_ ?_; rotate_left; (· (intro w'; go_simp; with_reducible rfl)); rotate_left; (· (simp only [Act.put, List.setIfInBounds_toArray, List.set_cons_zero, List.set_cons_succ, i64_w, i32_w]; rfl)))
        (refine pure_ (i := 6) (N := some 14) (v := ?_) (a' := ?_) (fl_ 25 95) rfl rfl (any_of HT_.out (by kernel_rfl)) (fun _ _ _ h => h) (Or.inl ⟨by rfl, ?_⟩) ?_ ?_; rotate_left; (· (intro w'; go_simp; with_reducible rfl)); rotate_left; (· (simp only [Act.put, List.setIfInBounds_toArray, List.set_cons_zero, List.set_cons_succ, i64_w, i32_w]; rfl)))
        (refine pure_ (i := 7) (N := some 15) (v := ?_) (a' := ?_) (fl_ 25 223) rfl rfl (any_of HT_.out (by kernel_rfl)) (fun _ _ _ h => h) (Or.inl ⟨by rfl, ?_⟩) ?_ ?_; rotate_left; (· (intro w'; go_simp; with_reducible rfl)); rotate_left; (· (simp only [Act.put, List.setIfInBounds_toArray, List.set_cons_zero, List.set_cons_succ, i64_w, i32_w]; rfl)))
        (refine pure_ (i := 9) (N := some 17) (v := ?_) (a' := ?_) (fl_ 25 735) rfl rfl (any_of HT_.out (by kernel_rfl)) (fun _ _ _ h => h) (Or.inl ⟨by rfl, ?_⟩) ?_ ?_; rotate_left; (· (intro w'; go_simp; with_reducible rfl)); rotate_left; (· (simp only [Act.put, List.setIfInBounds_toArray, List.set_cons_zero, List.set_cons_succ, i64_w, i32_w]; rfl)))
        (refine pure_ (i := 10) (N := some 18) (v := ?_) (a' := ?_) (fl_ 25 1759) rfl rfl (any_of HT_.out (by kernel_rfl)) (fun _ _ _ h => h) (Or.inl ⟨by rfl, ?_⟩) ?_ ?_; rotate_left; (· (intro w'; go_simp; with_reducible rfl)); rotate_left; (· (simp only [Act.put, List.setIfInBounds_toArray, List.set_cons_zero, List.set_cons_succ, i64_w, i32_w]; rfl)))
        (refine take_ (i := 5) (N := some 13) (v := ?_) (a' := ?_) (fl_ 25 1791) rfl rfl (take_ofW HT_.out HW_.out (by kernel_rfl)) (fun _ _ _ h => h) (Or.inl ⟨by rfl, ?_⟩) hHeld ?_ ?_; rotate_left; (· (rintro w' ⟨s0, s1, s2⟩; go_simp; with_reducible rfl)); rotate_left; (· (simp only [Act.put, List.setIfInBounds_toArray, List.set_cons_zero, List.set_cons_succ, i64_w, i32_w]; rfl)))
        (refine take_ (i := 8) (N := some 16) (v := ?_) (a' := ?_) (fl_ 25 2047) rfl rfl (take_ofW HT_.out HW_.out (by kernel_rfl)) (fun _ _ _ h => h) (Or.inl ⟨by rfl, ?_⟩) hHeld ?_ ?_; rotate_left; (· (rintro w' ⟨s0, s1, s2⟩; go_simp; with_reducible rfl)); rotate_left; (· (simp only [Act.put, List.setIfInBounds_toArray, List.set_cons_zero, List.set_cons_succ, i64_w, i32_w]; rfl)))
        (refine take_ (i := 11) (N := some 19) (v := ?_) (a' := ?_) (fl_ 25 4095) rfl rfl (take_ofW HT_.out HW_.out (by kernel_rfl)) (fun _ _ _ h => h) (Or.inl ⟨by rfl, ?_⟩) hHeld ?_ ?_; rotate_left; (· (rintro w' ⟨s0, s1, s2⟩; go_simp; with_reducible rfl)); rotate_left; (· (simp only [Act.put, List.setIfInBounds_toArray, List.set_cons_zero, List.set_cons_succ, i64_w, i32_w]; rfl)))
        refine one_ (i := 12) (N := some 20) (fl_ 25 8191) rfl rfl (one_of HT_.out (by kernel_rfl)) (by decide) (fun K hK => ?_)
        refine goes_ Tryz.func48 (by kernel_rfl) rfl #[.string d] (by rfl) rfl rfl (by (try simp only [List.map_toArray, List.map_cons, List.map_nil]); first | done | rfl) ?_
        refine (number_calls d HDZ.out _ HRD.out.glob).mono ?_
        rintro e w3 ⟨he, hb⟩
        rw [HU.out] at he
        subst he
        refine ⟨_, rfl, ?_⟩
        have n0_ := Lib.hid (HRD.out.step hb); clear HRD; have HRD := n0_; clear n0_
        have n0_ := HPC.out; have HPC : Hid (w3.cell? ⟨ab, ao, none⟩ = some (.string a) ∧ w3.cell? ⟨ab, ao + 1, none⟩ = some (.string b) ∧ w3.cell? ⟨ab, ao + 2, none⟩ = some (.string d)) := Lib.hid ⟨(hb.cell (World.block_lt_of_cell? _ _ n0_.1)).trans n0_.1, (hb.cell (World.block_lt_of_cell? _ _ n0_.2.1)).trans n0_.2.1, (hb.cell (World.block_lt_of_cell? _ _ n0_.2.2)).trans n0_.2.2⟩; clear n0_
        clear hb
        refine hK.out _ _ HPC.out (fun hHeld => ?_)
        clear hK K
        refine norm_ (a' := ?_) ?_ ?_; rotate_left; (· (show Act.put _ (some 20) _ = _; simp only [Act.put, List.setIfInBounds_toArray, List.set_cons_zero, List.set_cons_succ, i64_w, i32_w]; rfl))
        (refine pure_ (i := 13) (N := some 21) (v := ?_) (a' := ?_) (fl_ 25 16383) rfl rfl (any_of HT_.out (by kernel_rfl)) (fun _ _ _ h => h) (Or.inl ⟨by rfl, ?_⟩) ?_ ?_; rotate_left; (· (intro w'; go_simp; with_reducible rfl)); rotate_left; (· (simp only [Act.put, List.setIfInBounds_toArray, List.set_cons_zero, List.set_cons_succ, i64_w, i32_w]; rfl)))
        (refine pure_ (i := 14) (N := some 22) (v := ?_) (a' := ?_) (fl_ 25 32767) rfl rfl (any_of HT_.out (by kernel_rfl)) (fun _ _ _ h => h) (Or.inl ⟨by rfl, ?_⟩) ?_ ?_; rotate_left; (· (intro w'; go_simp; with_reducible rfl)); rotate_left; (· (simp only [Act.put, List.setIfInBounds_toArray, List.set_cons_zero, List.set_cons_succ, i64_w, i32_w]; rfl)))
        (refine pure_ (i := 15) (N := some 23) (v := ?_) (a' := ?_) (fl_ 25 65535) rfl rfl (any_of HT_.out (by kernel_rfl)) (fun _ _ _ h => h) (Or.inl ⟨by rfl, ?_⟩) ?_ ?_; rotate_left; (· (intro w'; go_simp; with_reducible rfl)); rotate_left; (· (simp only [Act.put, List.setIfInBounds_toArray, List.set_cons_zero, List.set_cons_succ, i64_w, i32_w]; rfl)))
        refine last_ (i := 16) (N := none) (fl_ 25 131071) rfl rfl (one_of HT_.out (by kernel_rfl)) (by decide) (fun K hK => ?_)
        have d3 : w3.frozen? ⟨w0.heap.size, 1, none⟩ = false := blk_frozen HRD.out.blk 1
        have d4 : w3.cell? ⟨w0.heap.size, 1, none⟩ = some (.string ⟨#[]⟩) := (blk_cell HRD.out.blk 1).trans rfl
        refine skip_ (w1 := w3.setCell ⟨w0.heap.size, 1, none⟩ (.string a)) (by rfl) rfl ?hr6 ?_
        case hr6 => (go_simp; try with_reducible rfl)
        have n0_ := Lib.hid (HRD.out.put (cs' := #[(.slice A1 tl.length c1), .string a, .string ⟨#[]⟩, .int .u64 0, .int .i64 0, .slice none 0 0, .int .i64 0]) 1 (.string a) rfl); clear HRD d3 d4; have HRD := n0_; clear n0_
        generalize w3.setCell ⟨w0.heap.size, 1, none⟩ (.string a) = w4 at HRD ⊢
        refine hK.out _ _ ?_
        clear hK K
        (refine pure_ (i := 17) (N := some 24) (v := ?_) (a' := ?_) (fl_ 25 262143) rfl rfl (any_of HT_.out (by kernel_rfl)) (fun _ _ _ h => h) (Or.inl ⟨by rfl, ?_⟩) ?_ ?_; rotate_left; (· (intro w'; go_simp; with_reducible rfl)); rotate_left; (· (simp only [Act.put, List.setIfInBounds_toArray, List.set_cons_zero, List.set_cons_succ, i64_w, i32_w]; rfl)))
        (refine pure_ (i := 18) (N := some 25) (v := ?_) (a' := ?_) (fl_ 25 524287) rfl rfl (any_of HT_.out (by kernel_rfl)) (fun _ _ _ h => h) (Or.inl ⟨by rfl, ?_⟩) ?_ ?_; rotate_left; (· (intro w'; go_simp; with_reducible rfl)); rotate_left; (· (simp only [Act.put, List.setIfInBounds_toArray, List.set_cons_zero, List.set_cons_succ, i64_w, i32_w]; rfl)))
        (refine pure_ (i := 19) (N := some 26) (v := ?_) (a' := ?_) (fl_ 25 1048575) rfl rfl (any_of HT_.out (by kernel_rfl)) (fun _ _ _ h => h) (Or.inl ⟨by rfl, ?_⟩) ?_ ?_; rotate_left; (· (intro w'; go_simp; with_reducible rfl)); rotate_left; (· (simp only [Act.put, List.setIfInBounds_toArray, List.set_cons_zero, List.set_cons_succ, i64_w, i32_w]; rfl)))
        refine last_ (i := 20) (N := none) (fl_ 25 2097151) rfl rfl (one_of HT_.out (by kernel_rfl)) (by decide) (fun K hK => ?_)
        have d3 : w4.frozen? ⟨w0.heap.size, 2, none⟩ = false := blk_frozen HRD.out.blk 2
        have d4 : w4.cell? ⟨w0.heap.size, 2, none⟩ = some (.string ⟨#[]⟩) := (blk_cell HRD.out.blk 2).trans rfl
        refine skip_ (w1 := w4.setCell ⟨w0.heap.size, 2, none⟩ (.string b)) (by rfl) rfl ?hr7 ?_
        case hr7 => (go_simp; try with_reducible rfl)
        have n0_ := Lib.hid (HRD.out.put (cs' := #[(.slice A1 tl.length c1), .string a, .string b, .int .u64 0, .int .i64 0, .slice none 0 0, .int .i64 0]) 2 (.string b) rfl); clear HRD d3 d4; have HRD := n0_; clear n0_
        generalize w4.setCell ⟨w0.heap.size, 2, none⟩ (.string b) = w5 at HRD ⊢
        refine hK.out _ _ ?_
        clear hK K
        (refine pure_ (i := 21) (N := some 27) (v := ?_) (a' := ?_) (fl_ 25 4194303) rfl rfl (any_of HT_.out (by kernel_rfl)) (fun _ _ _ h => h) (Or.inl ⟨by rfl, ?_⟩) ?_ ?_; rotate_left; (· (intro w'; go_simp; with_reducible rfl)); rotate_left; (· (simp only [Act.put, List.setIfInBounds_toArray, List.set_cons_zero, List.set_cons_succ, i64_w, i32_w]; rfl)))
        (refine pure_ (i := 22) (N := some 28) (v := ?_) (a' := ?_) (fl_ 25 8388607) rfl rfl (any_of HT_.out (by kernel_rfl)) (fun _ _ _ h => h) (Or.inl ⟨by rfl, ?_⟩) ?_ ?_; rotate_left; (· (intro w'; go_simp; with_reducible rfl)); rotate_left; (· (simp only [Act.put, List.setIfInBounds_toArray, List.set_cons_zero, List.set_cons_succ, i64_w, i32_w]; rfl)))
        (refine pure_ (i := 23) (N := some 29) (v := ?_) (a' := ?_) (fl_ 25 16777215) rfl rfl (any_of HT_.out (by kernel_rfl)) (fun _ _ _ h => h) (Or.inl ⟨by rfl, ?_⟩) ?_ ?_; rotate_left; (· (intro w'; go_simp; with_reducible rfl)); rotate_left; (· (simp only [Act.put, List.setIfInBounds_toArray, List.set_cons_zero, List.set_cons_succ, i64_w, i32_w]; rfl)))
        refine last_ (i := 24) (N := none) (fl_ 25 33554431) rfl rfl (one_of HT_.out (by kernel_rfl)) (by decide) (fun K hK => ?_)
        have d3 : w5.frozen? ⟨w0.heap.size, 3, none⟩ = false := blk_frozen HRD.out.blk 3
        have d4 : w5.cell? ⟨w0.heap.size, 3, none⟩ = some (.int .u64 0) := (blk_cell HRD.out.blk 3).trans rfl
        refine skip_ (w1 := w5.setCell ⟨w0.heap.size, 3, none⟩ (.int .u64 (day : Int))) (by rfl) rfl ?hr8 ?_
        case hr8 => (go_simp; try with_reducible rfl)
        have n0_ := Lib.hid (HRD.out.put (cs' := #[(.slice A1 tl.length c1), .string a, .string b, .int .u64 (day : Int), .int .i64 0, .slice none 0 0, .int .i64 0]) 3 (.int .u64 (day : Int)) rfl); clear HRD d3 d4; have HRD := n0_; clear n0_
        generalize w5.setCell ⟨w0.heap.size, 3, none⟩ (.int .u64 (day : Int)) = w6 at HRD ⊢
        refine hK.out _ _ ?_
        clear hK K
        refine done_ (done_of HT_.out (by kernel_rfl)) ?_
        cases tl with
        | nil =>
          obtain rfl : R = none := by
            have hk := HK.out
            simp only [takeW] at hk
            exact (Option.some.inj hk).symm
          have HWD := Lib.hid (words_none w0 w6 A1 c1 _ _ _ _ _ _ ⟨#[79, 80, 69, 78]⟩ 2 HRD.out)
          clear HK HRD
          go_wp2_with (go_at_call 47; refine (HWD.out).mono ?_; rintro e w7 ⟨he, h1⟩; unfold gaveUp at he; subst he; have HE := Lib.hid h1; clear h1)
          exact ⟨rfl, HE.out.below, rfl⟩
        | cons s tl =>
          obtain ⟨A2, hC2, hc2, hwd⟩ := words_some w0 w6 A1 c1 s tl _ _ _ _ _ _ ⟨#[79, 80, 69, 78]⟩ 2 HRD.out HC1.out HC2.out (HSZ.out s (List.mem_cons_self ..)) (by decide)
          have hk := HK.out
          by_cases hok : okW ⟨#[79, 80, 69, 78]⟩ 2 (splitOn s 32) = true
          · simp only [takeW, if_pos hok] at hk
            simp only [if_pos hok] at hwd
            obtain ⟨o, ho⟩ := oneS (okW_len hok)
            have hoz : o.size ≤ 140737488351232 := by
              have h1 : o ∈ splitOn s 32 := List.mem_of_mem_drop (i := 1) (by rw [ho]; simp)
              have := splitS_sizes h1
              have := HSZ.out s (List.mem_cons_self ..)
              omega
            rw [ho] at hk hwd
            simp only [List.getD_cons_zero] at hk
            have HOZ := Lib.hid hoz; have HWD := Lib.hid hwd
            have n1_ := Lib.hid hC2; have n2_ := Lib.hid hc2; have n3_ := HSZ; have n4_ := HNL
            clear HC1 HC2 HSZ HNL hC2 hc2 hwd hoz hok ho
            have HC1 := n1_; have HC2 := n2_
            have HSZ := Lib.hid (fun x (hx : x ∈ tl) => n3_.out x (List.mem_cons_of_mem _ hx))
            have HNL : Hid (tl.length ≤ 1000000) := Lib.hid (by have := n4_.out; simp only [List.length_cons] at this; omega)
            clear n1_ n2_ n3_ n4_
            cases hv : amtP o with
            | none =>
              simp only [hv] at hk
              obtain rfl : R = none := (Option.some.inj hk).symm
              have HV : Hid (amtEnd (amtP o) = .panicked [{ v := .iface 28 (.int .i64 190), recovered := false }]) := Lib.hid (by rw [hv]; rfl)
              clear hk HK hv
              go_wp2_with (first | (go_at_call 47; refine (HWD.out).mono ?_; rintro e w7 ⟨hkb, hrd, Aw, cw, he, hCw, hcw⟩; subst he; obtain ⟨ab2, ao2, had, p0⟩ := cells1 hCw; subst had; clear HRD; have HRD := Lib.hid hrd; clear hkb hrd hCw hcw) | (go_at_call 49; refine (amount_calls o HOZ.out _ HRD.out.glob).mono ?_; rintro e w8 ⟨he, hb⟩; rw [HV.out] at he; subst he; have HE := Lib.hid (HRD.out.step hb).below; clear hb))
              exact ⟨rfl, HE.out, rfl⟩
            | some op =>
              simp only [hv] at hk
              have HV : Hid (amtEnd (amtP o) = .returned (.int .i64 op)) := Lib.hid (by rw [hv]; rfl)
              clear HK
              obtain ⟨L0, hL0⟩ : ∃ L0, L0 = tl := ⟨_, rfl⟩
              rw [← hL0] at hk
              have HK := Lib.hid hk
              clear hk hv
              obtain ⟨c2, hc2⟩ : ∃ c2, c1 - 1 = c2 := ⟨_, rfl⟩
              rw [hc2] at HWD HC2
              clear hc2
              go_wp2_with (first | (go_at_call 47; refine (HWD.out).mono ?_; rintro e w7 ⟨hkb, hrd, Aw, cw, he, hCw, hcw⟩; subst he; obtain ⟨ab2, ao2, had, p0⟩ := cells1 hCw; subst had; clear HRD; have HRD := Lib.hid hrd; clear hkb hrd hCw hcw) | (go_at_call 49; refine (amount_calls o HOZ.out _ HRD.out.glob).mono ?_; rintro e w8 ⟨he, hb⟩; rw [HV.out] at he; subst he; have n0_ := Lib.hid (HRD.out.step hb); clear HRD hb p0; have HRD := n0_; clear n0_; have d3 : w8.frozen? ⟨w0.heap.size, 4, none⟩ = false := blk_frozen HRD.out.blk 4; have d4 : w8.cell? ⟨w0.heap.size, 4, none⟩ = some (.int .i64 0) := (blk_cell HRD.out.blk 4).trans rfl))
              have n0_ := Lib.hid (HRD.out.put (cs' := #[.slice A2 tl.length c2, .string a, .string b, .int .u64 (day : Int), .int .i64 op, .slice none ([] : List Line_).length 0, .int .i64 0]) 4 (.int .i64 op) rfl)
              clear HRD d3 d4 HWD HOZ HV
              have HRD := n0_
              clear n0_
              clear HDZ HPC HU
              go_loopw [3] (fun _ wr => ∃ (A1 : Option Addr) (tl : List ByteArray) (c1 : Nat) (ls : List Line_) (Av : Option Addr) (cv : Nat), Hid (RdS w0 #[.slice A1 tl.length c1, .string a, .string b, .int .u64 (day : Int), .int .i64 op, .slice Av ls.length cv, .int .i64 0] wr) ∧ Hid (Kd.R k37 37 wr (w0.heap.size + 1) (fun k => k ≠ w0.heap.size) (.slice Av ls.length cv) ls) ∧ Hid (Kd.C Kd.string w0 A1 tl.length tl) ∧ Hid (tl.length ≤ c1) ∧ Hid (∀ x ∈ tl, x.size ≤ 1000000) ∧ Hid (ls.length + tl.length ≤ 1000000) ∧ Hid (postsP L0 = (postsP tl).map fun r => (ls ++ r.1, r.2))) (fun _ wr => linesLeft w0 wr)
              case atStart => exact ⟨A2, tl, c2, [], none, 0, HRD, Lib.hid (Kd.R_nil _ _ _ _ _), HC1, HC2, HSZ, Lib.hid (by have := HNL.out; simp only [List.length_nil]; omega), Lib.hid (by rw [hL0]; cases postsP tl <;> simp)⟩
              case round =>
                clear HRD HC1 HC2 HSZ HNL hL0
                obtain ⟨A1, tl, c1, ls, Av, cv, HRD, HOW, HC1, HC2, HSZ, HNL, HPP⟩ := hrel
                obtain ⟨wo, rfl⟩ : ∃ wo : World, wo = wr := ⟨_, rfl⟩
                have HNX := Lib.hid (next_calls w0 wo A1 c1 tl _ _ _ _ _ _ ⟨#[80, 79, 83, 84]⟩ (by decide) HRD.out HC1.out)
                have HME : Hid (linesLeft w0 wo = tl.length) := Lib.hid (linesLeft_is HRD.out)
                by_cases hnx : nextB ⟨#[80, 79, 83, 84]⟩ tl = true
                · rw [hnx] at HNX
                  go_upto_region 4 with (go_at_call 50; refine (HNX.out).mono ?_; rintro e w8 ⟨rfl, hb⟩; have n0_ := Lib.hid (HRD.out.step hb); have n1_ := Lib.hid (Kd.R_below HOW.out hb); clear HRD HOW hb HNX; have HRD := n0_; have HOW := n1_; clear n0_ n1_)
                  cases tl with
                  | nil => cases hnx
                  | cons s tl =>
                    have hpp := HPP.out
                    simp only [postsP, if_pos hnx] at hpp
                    obtain ⟨A2, hC2, hc2, hwd⟩ := words_some w0 w8 A1 c1 s tl _ _ _ _ _ _ ⟨#[80, 79, 83, 84]⟩ 4 HRD.out HC1.out HC2.out (HSZ.out s (List.mem_cons_self ..)) (by decide)
                    by_cases hok : okW ⟨#[80, 79, 83, 84]⟩ 4 (splitOn s 32) = true
                    · simp only [if_pos hok] at hwd hpp
                      obtain ⟨n, r, m, hab⟩ := threeS (okW_len hok)
                      have hz : ∀ x ∈ [n, r, m], x.size ≤ 140737488351232 := fun x hx => by
                        have h1 : x ∈ splitOn s 32 := List.mem_of_mem_drop (i := 1) (by rw [hab]; exact hx)
                        have := splitS_sizes h1
                        have := HSZ.out s (List.mem_cons_self ..)
                        omega
                      have HNZ := Lib.hid (hz n (by simp)); have HMZ := Lib.hid (hz m (by simp))
                      rw [hab] at hwd hpp
                      have HWD := Lib.hid hwd; have HPP2 := Lib.hid hpp
                      have n1_ := Lib.hid hC2; have n2_ := Lib.hid hc2; have n3_ := HSZ; have n4_ := HNL
                      clear HC1 HC2 HSZ HNL hC2 hc2 hwd hz hok hab hpp HPP hnx
                      have HC1 := n1_; have HC2 := n2_
                      have HSZ := Lib.hid (fun x (hx : x ∈ tl) => n3_.out x (List.mem_cons_of_mem _ hx))
                      have HNL : Hid (ls.length + (tl.length + 1) ≤ 1000000) := Lib.hid (by have := n4_.out; simpa only [List.length_cons] using this)
                      clear n1_ n2_ n3_ n4_
                      obtain ⟨c1', hc1'⟩ : ∃ c', c1 - 1 = c' := ⟨_, rfl⟩
                      rw [hc1'] at HWD HC2
                      clear hc1'
                      obtain ⟨c1, rfl⟩ : ∃ c, c = c1' := ⟨_, rfl⟩
                      obtain ⟨A1, rfl⟩ : ∃ A, A = A2 := ⟨_, rfl⟩
                      go_upto_region 5 with (go_at_call 47; refine (HWD.out).mono ?_; rintro e w1 ⟨hkb, hrd, Aw, cw, he, hCw, hcw⟩; subst he; clear HRD; have HRD := Lib.hid hrd; have n0_ := Lib.hid (Kd.R_keep HOW.out hkb (fun _ h => h)); clear HOW; have HOW := n0_; clear n0_; have HCW := Lib.hid hCw; clear hkb hrd hCw hcw HWD)
                      obtain ⟨ab, ao, had, p0, p1, p2⟩ := cells3 HCW.out
                      subst had
                      have HPC : Hid (w1.cell? ⟨w0.heap.size, 5, none⟩ = some (.slice Av ls.length cv) ∧ w1.cell? ⟨ab, ao, none⟩ = some (.string n) ∧ w1.cell? ⟨ab, ao + 1, none⟩ = some (.string r) ∧ w1.cell? ⟨ab, ao + 2, none⟩ = some (.string m)) := Lib.hid ⟨(blk_cell HRD.out.blk 5).trans rfl, p0, p1, p2⟩
                      clear p0 p1 p2 HCW
                      have hpp := HPP2.out
                      simp only [lineP] at hpp
                      cases hu : uintP n with
                      | none =>
                        simp only [hu] at hpp
                        have hk := HK.out
                        rw [hpp] at hk
                        simp only [Option.map_none] at hk
                        obtain rfl : R = none := (Option.some.inj hk).symm
                        have HU : Hid (numEnd (uintP n) = .panicked [{ v := .iface 28 (.int .i64 190), recovered := false }]) := Lib.hid (by rw [hu]; rfl)
                        clear hk HK hpp HPP2 hu
                        refine start_ (n := 24) (S := fun W_ => W_.cell? ⟨w0.heap.size, 5, none⟩ = some (.slice Av ls.length cv) ∧ W_.cell? ⟨ab, ao, none⟩ = some (.string n) ∧ W_.cell? ⟨ab, ao + 1, none⟩ = some (.string r) ∧ W_.cell? ⟨ab, ao + 2, none⟩ = some (.string m)) (ds := [23, 19]) #[false, false, false, false, false, false, false, false, false, false, false, false, false, false, false, false, false, false, false, false, false, false, false, false] (by kernel_rfl) rfl rfl HPC.out (fun hHeld => ?_); refine with_tabW slp5_tab slp5_bits (fun HT_ HW_ => ?_)
                        have n0_ := Lib.hid (HRD.out.step (below_drew1 (Below.refl _ _))); clear HRD; have HRD := n0_; clear n0_
                        have n0_ := Lib.hid (Kd.R_drew HOW.out); clear HOW; have HOW := n0_; clear n0_
                        have n0_ : Hid ((fun W_ => W_.cell? ⟨w0.heap.size, 5, none⟩ = some (.slice Av ls.length cv) ∧ W_.cell? ⟨ab, ao, none⟩ = some (.string n) ∧ W_.cell? ⟨ab, ao + 1, none⟩ = some (.string r) ∧ W_.cell? ⟨ab, ao + 2, none⟩ = some (.string m)) w1.drew) := Lib.hid hHeld; clear HPC; have HPC := n0_; clear n0_
                        generalize w1.drew = w2 at HRD HOW HPC hHeld ⊢
                        (refine pure_ (i := 0) (N := some 49) (v := ?_) (a' := ?_) (fl_ 24 1) rfl rfl (any_of HT_.out (by kernel_rfl)) (fun _ _ _ h => h) (Or.inl ⟨by rfl, ?_⟩) ?_ ?_; rotate_left; (· (intro w'; go_simp; with_reducible rfl)); rotate_left; (· (simp only [Act.put, List.setIfInBounds_toArray, List.set_cons_zero, List.set_cons_succ, i64_w, i32_w]; rfl)))
                        (refine pure_ (i := 1) (N := some 50) (v := ?_) (a' := ?_) (fl_ 24 3) rfl rfl (any_of HT_.out (by kernel_rfl)) (fun _ _ _ h => h) (Or.inl ⟨by rfl, ?_⟩) ?_ ?_; rotate_left; (· (intro w'; go_simp; with_reducible rfl)); rotate_left; (· (simp only [Act.put, List.setIfInBounds_toArray, List.set_cons_zero, List.set_cons_succ, i64_w, i32_w]; rfl)))
                        (refine pure_ (i := 2) (N := some 51) (v := ?_) (a' := ?_) (fl_ 24 7) rfl rfl (any_of HT_.out (by kernel_rfl)) (fun _ _ _ h => h) (Or.inl ⟨by rfl, ?_⟩) ?_ ?_; rotate_left; (· (intro w'; go_simp; with_reducible rfl)); rotate_left; (· (simp only [Act.put, List.setIfInBounds_toArray, List.set_cons_zero, List.set_cons_succ, i64_w, i32_w]; rfl)))
                        (refine pure_ (i := 3) (N := some 52) (v := ?_) (a' := ?_) (fl_ 24 15) rfl rfl (any_of HT_.out (by kernel_rfl)) (fun _ _ _ h => h) (Or.inl ⟨by rfl, ?_⟩) ?_ ?_; rotate_left; (· (intro w'; go_simp; with_reducible rfl)); rotate_left; (· (simp only [Act.put, List.setIfInBounds_toArray, List.set_cons_zero, List.set_cons_succ, i64_w, i32_w]; rfl)))
                        (refine pure_ (i := 4) (N := some 53) (v := ?_) (a' := ?_) (fl_ 24 31) rfl rfl (any_of HT_.out (by kernel_rfl)) (fun _ _ _ h => h) (Or.inl ⟨by rfl, ?_⟩) ?_ ?_; rotate_left; (· (intro w'; go_simp; with_reducible rfl)); rotate_left; (· (simp only [Act.put, List.setIfInBounds_toArray, List.set_cons_zero, List.set_cons_succ, i64_w, i32_w]; rfl)))
                        (refine pure_ (i := 6) (N := some 55) (v := ?_) (a' := ?_) (fl_ 24 95) rfl rfl (any_of HT_.out (by kernel_rfl)) (fun _ _ _ h => h) (Or.inl ⟨by rfl, ?_⟩) ?_ ?_; rotate_left; (· (intro w'; go_simp; with_reducible rfl)); rotate_left; (· (simp only [Act.put, List.setIfInBounds_toArray, List.set_cons_zero, List.set_cons_succ, i64_w, i32_w]; rfl)))
                        (refine pure_ (i := 7) (N := some 56) (v := ?_) (a' := ?_) (fl_ 24 223) rfl rfl (any_of HT_.out (by kernel_rfl)) (fun _ _ _ h => h) (Or.inl ⟨by rfl, ?_⟩) ?_ ?_; rotate_left; (· (intro w'; go_simp; with_reducible rfl)); rotate_left; (· (simp only [Act.put, List.setIfInBounds_toArray, List.set_cons_zero, List.set_cons_succ, i64_w, i32_w]; rfl)))
                        (refine pure_ (i := 10) (N := some 59) (v := ?_) (a' := ?_) (fl_ 24 1247) rfl rfl (any_of HT_.out (by kernel_rfl)) (fun _ _ _ h => h) (Or.inl ⟨by rfl, ?_⟩) ?_ ?_; rotate_left; (· (intro w'; go_simp; with_reducible rfl)); rotate_left; (· (simp only [Act.put, List.setIfInBounds_toArray, List.set_cons_zero, List.set_cons_succ, i64_w, i32_w]; rfl)))
                        (refine pure_ (i := 11) (N := some 60) (v := ?_) (a' := ?_) (fl_ 24 3295) rfl rfl (any_of HT_.out (by kernel_rfl)) (fun _ _ _ h => h) (Or.inl ⟨by rfl, ?_⟩) ?_ ?_; rotate_left; (· (intro w'; go_simp; with_reducible rfl)); rotate_left; (· (simp only [Act.put, List.setIfInBounds_toArray, List.set_cons_zero, List.set_cons_succ, i64_w, i32_w]; rfl)))
                        (refine pure_ (i := 13) (N := some 62) (v := ?_) (a' := ?_) (fl_ 24 11487) rfl rfl (any_of HT_.out (by kernel_rfl)) (fun _ _ _ h => h) (Or.inl ⟨by rfl, ?_⟩) ?_ ?_; rotate_left; (· (intro w'; go_simp; with_reducible rfl)); rotate_left; (· (simp only [Act.put, List.setIfInBounds_toArray, List.set_cons_zero, List.set_cons_succ, i64_w, i32_w]; rfl)))
                        (refine pure_ (i := 14) (N := some 63) (v := ?_) (a' := ?_) (fl_ 24 27871) rfl rfl (any_of HT_.out (by kernel_rfl)) (fun _ _ _ h => h) (Or.inl ⟨by rfl, ?_⟩) ?_ ?_; rotate_left; (· (intro w'; go_simp; with_reducible rfl)); rotate_left; (· (simp only [Act.put, List.setIfInBounds_toArray, List.set_cons_zero, List.set_cons_succ, i64_w, i32_w]; rfl)))
                        (refine take_ (i := 5) (N := some 54) (v := ?_) (a' := ?_) (fl_ 24 27903) rfl rfl (take_ofW HT_.out HW_.out (by kernel_rfl)) (fun _ _ _ h => h) (Or.inl ⟨by rfl, ?_⟩) hHeld ?_ ?_; rotate_left; (· (rintro w' ⟨s0, s1, s2, s3⟩; go_simp; with_reducible rfl)); rotate_left; (· (simp only [Act.put, List.setIfInBounds_toArray, List.set_cons_zero, List.set_cons_succ, i64_w, i32_w]; rfl)))
                        (refine take_ (i := 8) (N := some 57) (v := ?_) (a' := ?_) (fl_ 24 28159) rfl rfl (take_ofW HT_.out HW_.out (by kernel_rfl)) (fun _ _ _ h => h) (Or.inl ⟨by rfl, ?_⟩) hHeld ?_ ?_; rotate_left; (· (rintro w' ⟨s0, s1, s2, s3⟩; go_simp; with_reducible rfl)); rotate_left; (· (simp only [Act.put, List.setIfInBounds_toArray, List.set_cons_zero, List.set_cons_succ, i64_w, i32_w]; rfl)))
                        (refine take_ (i := 12) (N := some 61) (v := ?_) (a' := ?_) (fl_ 24 32255) rfl rfl (take_ofW HT_.out HW_.out (by kernel_rfl)) (fun _ _ _ h => h) (Or.inl ⟨by rfl, ?_⟩) hHeld ?_ ?_; rotate_left; (· (rintro w' ⟨s0, s1, s2, s3⟩; go_simp; with_reducible rfl)); rotate_left; (· (simp only [Act.put, List.setIfInBounds_toArray, List.set_cons_zero, List.set_cons_succ, i64_w, i32_w]; rfl)))
                        (refine take_ (i := 15) (N := some 64) (v := ?_) (a' := ?_) (fl_ 24 65023) rfl rfl (take_ofW HT_.out HW_.out (by kernel_rfl)) (fun _ _ _ h => h) (Or.inl ⟨by rfl, ?_⟩) hHeld ?_ ?_; rotate_left; (· (rintro w' ⟨s0, s1, s2, s3⟩; go_simp; with_reducible rfl)); rotate_left; (· (simp only [Act.put, List.setIfInBounds_toArray, List.set_cons_zero, List.set_cons_succ, i64_w, i32_w]; rfl)))
                        refine one_ (i := 9) (N := some 58) (fl_ 24 65535) rfl rfl (one_of HT_.out (by kernel_rfl)) (by decide) (fun K hK => ?_)
                        refine goesP_ Tryz.func48 (by kernel_rfl) rfl #[.string n] (by rfl) rfl (by (try simp only [List.map_toArray, List.map_cons, List.map_nil]); first | done | rfl) ?_
                        refine (number_calls n HNZ.out _ HRD.out.glob).mono ?_
                        rintro e w3 ⟨he, hb⟩
                        rw [HU.out] at he
                        subst he
                        exact ⟨_, rfl, rfl, (HRD.out.step hb).below, rfl⟩
                      | some u =>
                        simp only [hu] at hpp
                        have HU : Hid (numEnd (uintP n) = .returned (.int .u64 (u : Int))) := Lib.hid (by rw [hu]; rfl)
                        clear hu
                        cases hv2 : amtP m with
                        | none =>
                          simp only [hv2] at hpp
                          have hk := HK.out
                          rw [hpp] at hk
                          simp only [Option.map_none] at hk
                          obtain rfl : R = none := (Option.some.inj hk).symm
                          have HV : Hid (amtEnd (amtP m) = .panicked [{ v := .iface 28 (.int .i64 190), recovered := false }]) := Lib.hid (by rw [hv2]; rfl)
                          clear hk HK hpp HPP2 hv2
                          refine start_ (n := 24) (S := fun W_ => W_.cell? ⟨w0.heap.size, 5, none⟩ = some (.slice Av ls.length cv) ∧ W_.cell? ⟨ab, ao, none⟩ = some (.string n) ∧ W_.cell? ⟨ab, ao + 1, none⟩ = some (.string r) ∧ W_.cell? ⟨ab, ao + 2, none⟩ = some (.string m)) (ds := [23, 19]) #[false, false, false, false, false, false, false, false, false, false, false, false, false, false, false, false, false, false, false, false, false, false, false, false] (by kernel_rfl) rfl rfl HPC.out (fun hHeld => ?_); refine with_tabW slp5_tab slp5_bits (fun HT_ HW_ => ?_)
                          have n0_ := Lib.hid (HRD.out.step (below_drew1 (Below.refl _ _))); clear HRD; have HRD := n0_; clear n0_
                          have n0_ := Lib.hid (Kd.R_drew HOW.out); clear HOW; have HOW := n0_; clear n0_
                          have n0_ : Hid ((fun W_ => W_.cell? ⟨w0.heap.size, 5, none⟩ = some (.slice Av ls.length cv) ∧ W_.cell? ⟨ab, ao, none⟩ = some (.string n) ∧ W_.cell? ⟨ab, ao + 1, none⟩ = some (.string r) ∧ W_.cell? ⟨ab, ao + 2, none⟩ = some (.string m)) w1.drew) := Lib.hid hHeld; clear HPC; have HPC := n0_; clear n0_
                          generalize w1.drew = w2 at HRD HOW HPC hHeld ⊢
                          (refine pure_ (i := 0) (N := some 49) (v := ?_) (a' := ?_) (fl_ 24 1) rfl rfl (any_of HT_.out (by kernel_rfl)) (fun _ _ _ h => h) (Or.inl ⟨by rfl, ?_⟩) ?_ ?_; rotate_left; (· (intro w'; go_simp; with_reducible rfl)); rotate_left; (· (simp only [Act.put, List.setIfInBounds_toArray, List.set_cons_zero, List.set_cons_succ, i64_w, i32_w]; rfl)))
                          (refine pure_ (i := 1) (N := some 50) (v := ?_) (a' := ?_) (fl_ 24 3) rfl rfl (any_of HT_.out (by kernel_rfl)) (fun _ _ _ h => h) (Or.inl ⟨by rfl, ?_⟩) ?_ ?_; rotate_left; (· (intro w'; go_simp; with_reducible rfl)); rotate_left; (· (simp only [Act.put, List.setIfInBounds_toArray, List.set_cons_zero, List.set_cons_succ, i64_w, i32_w]; rfl)))
                          (refine pure_ (i := 2) (N := some 51) (v := ?_) (a' := ?_) (fl_ 24 7) rfl rfl (any_of HT_.out (by kernel_rfl)) (fun _ _ _ h => h) (Or.inl ⟨by rfl, ?_⟩) ?_ ?_; rotate_left; (· (intro w'; go_simp; with_reducible rfl)); rotate_left; (· (simp only [Act.put, List.setIfInBounds_toArray, List.set_cons_zero, List.set_cons_succ, i64_w, i32_w]; rfl)))
                          (refine pure_ (i := 3) (N := some 52) (v := ?_) (a' := ?_) (fl_ 24 15) rfl rfl (any_of HT_.out (by kernel_rfl)) (fun _ _ _ h => h) (Or.inl ⟨by rfl, ?_⟩) ?_ ?_; rotate_left; (· (intro w'; go_simp; with_reducible rfl)); rotate_left; (· (simp only [Act.put, List.setIfInBounds_toArray, List.set_cons_zero, List.set_cons_succ, i64_w, i32_w]; rfl)))
                          (refine pure_ (i := 4) (N := some 53) (v := ?_) (a' := ?_) (fl_ 24 31) rfl rfl (any_of HT_.out (by kernel_rfl)) (fun _ _ _ h => h) (Or.inl ⟨by rfl, ?_⟩) ?_ ?_; rotate_left; (· (intro w'; go_simp; with_reducible rfl)); rotate_left; (· (simp only [Act.put, List.setIfInBounds_toArray, List.set_cons_zero, List.set_cons_succ, i64_w, i32_w]; rfl)))
                          (refine pure_ (i := 6) (N := some 55) (v := ?_) (a' := ?_) (fl_ 24 95) rfl rfl (any_of HT_.out (by kernel_rfl)) (fun _ _ _ h => h) (Or.inl ⟨by rfl, ?_⟩) ?_ ?_; rotate_left; (· (intro w'; go_simp; with_reducible rfl)); rotate_left; (· (simp only [Act.put, List.setIfInBounds_toArray, List.set_cons_zero, List.set_cons_succ, i64_w, i32_w]; rfl)))
                          (refine pure_ (i := 7) (N := some 56) (v := ?_) (a' := ?_) (fl_ 24 223) rfl rfl (any_of HT_.out (by kernel_rfl)) (fun _ _ _ h => h) (Or.inl ⟨by rfl, ?_⟩) ?_ ?_; rotate_left; (· (intro w'; go_simp; with_reducible rfl)); rotate_left; (· (simp only [Act.put, List.setIfInBounds_toArray, List.set_cons_zero, List.set_cons_succ, i64_w, i32_w]; rfl)))
                          (refine pure_ (i := 10) (N := some 59) (v := ?_) (a' := ?_) (fl_ 24 1247) rfl rfl (any_of HT_.out (by kernel_rfl)) (fun _ _ _ h => h) (Or.inl ⟨by rfl, ?_⟩) ?_ ?_; rotate_left; (· (intro w'; go_simp; with_reducible rfl)); rotate_left; (· (simp only [Act.put, List.setIfInBounds_toArray, List.set_cons_zero, List.set_cons_succ, i64_w, i32_w]; rfl)))
                          (refine pure_ (i := 11) (N := some 60) (v := ?_) (a' := ?_) (fl_ 24 3295) rfl rfl (any_of HT_.out (by kernel_rfl)) (fun _ _ _ h => h) (Or.inl ⟨by rfl, ?_⟩) ?_ ?_; rotate_left; (· (intro w'; go_simp; with_reducible rfl)); rotate_left; (· (simp only [Act.put, List.setIfInBounds_toArray, List.set_cons_zero, List.set_cons_succ, i64_w, i32_w]; rfl)))
                          (refine pure_ (i := 13) (N := some 62) (v := ?_) (a' := ?_) (fl_ 24 11487) rfl rfl (any_of HT_.out (by kernel_rfl)) (fun _ _ _ h => h) (Or.inl ⟨by rfl, ?_⟩) ?_ ?_; rotate_left; (· (intro w'; go_simp; with_reducible rfl)); rotate_left; (· (simp only [Act.put, List.setIfInBounds_toArray, List.set_cons_zero, List.set_cons_succ, i64_w, i32_w]; rfl)))
                          (refine pure_ (i := 14) (N := some 63) (v := ?_) (a' := ?_) (fl_ 24 27871) rfl rfl (any_of HT_.out (by kernel_rfl)) (fun _ _ _ h => h) (Or.inl ⟨by rfl, ?_⟩) ?_ ?_; rotate_left; (· (intro w'; go_simp; with_reducible rfl)); rotate_left; (· (simp only [Act.put, List.setIfInBounds_toArray, List.set_cons_zero, List.set_cons_succ, i64_w, i32_w]; rfl)))
                          (refine take_ (i := 5) (N := some 54) (v := ?_) (a' := ?_) (fl_ 24 27903) rfl rfl (take_ofW HT_.out HW_.out (by kernel_rfl)) (fun _ _ _ h => h) (Or.inl ⟨by rfl, ?_⟩) hHeld ?_ ?_; rotate_left; (· (rintro w' ⟨s0, s1, s2, s3⟩; go_simp; with_reducible rfl)); rotate_left; (· (simp only [Act.put, List.setIfInBounds_toArray, List.set_cons_zero, List.set_cons_succ, i64_w, i32_w]; rfl)))
                          (refine take_ (i := 8) (N := some 57) (v := ?_) (a' := ?_) (fl_ 24 28159) rfl rfl (take_ofW HT_.out HW_.out (by kernel_rfl)) (fun _ _ _ h => h) (Or.inl ⟨by rfl, ?_⟩) hHeld ?_ ?_; rotate_left; (· (rintro w' ⟨s0, s1, s2, s3⟩; go_simp; with_reducible rfl)); rotate_left; (· (simp only [Act.put, List.setIfInBounds_toArray, List.set_cons_zero, List.set_cons_succ, i64_w, i32_w]; rfl)))
                          (refine take_ (i := 12) (N := some 61) (v := ?_) (a' := ?_) (fl_ 24 32255) rfl rfl (take_ofW HT_.out HW_.out (by kernel_rfl)) (fun _ _ _ h => h) (Or.inl ⟨by rfl, ?_⟩) hHeld ?_ ?_; rotate_left; (· (rintro w' ⟨s0, s1, s2, s3⟩; go_simp; with_reducible rfl)); rotate_left; (· (simp only [Act.put, List.setIfInBounds_toArray, List.set_cons_zero, List.set_cons_succ, i64_w, i32_w]; rfl)))
                          (refine take_ (i := 15) (N := some 64) (v := ?_) (a' := ?_) (fl_ 24 65023) rfl rfl (take_ofW HT_.out HW_.out (by kernel_rfl)) (fun _ _ _ h => h) (Or.inl ⟨by rfl, ?_⟩) hHeld ?_ ?_; rotate_left; (· (rintro w' ⟨s0, s1, s2, s3⟩; go_simp; with_reducible rfl)); rotate_left; (· (simp only [Act.put, List.setIfInBounds_toArray, List.set_cons_zero, List.set_cons_succ, i64_w, i32_w]; rfl)))
                          refine one_ (i := 9) (N := some 58) (fl_ 24 65535) rfl rfl (one_of HT_.out (by kernel_rfl)) (by decide) (fun K hK => ?_)
                          refine goes_ Tryz.func48 (by kernel_rfl) rfl #[.string n] (by rfl) rfl rfl (by (try simp only [List.map_toArray, List.map_cons, List.map_nil]); first | done | rfl) ?_
                          refine (number_calls n HNZ.out _ HRD.out.glob).mono ?_
                          rintro e w3 ⟨he, hb⟩
                          rw [HU.out] at he
                          subst he
                          refine ⟨_, rfl, ?_⟩
                          have n0_ := Lib.hid (HRD.out.step hb); clear HRD; have HRD := n0_; clear n0_
                          have n0_ := Lib.hid (Kd.R_below HOW.out hb); clear HOW; have HOW := n0_; clear n0_
                          have n0_ := HPC.out; have HPC : Hid (w3.cell? ⟨w0.heap.size, 5, none⟩ = some (.slice Av ls.length cv) ∧ w3.cell? ⟨ab, ao, none⟩ = some (.string n) ∧ w3.cell? ⟨ab, ao + 1, none⟩ = some (.string r) ∧ w3.cell? ⟨ab, ao + 2, none⟩ = some (.string m)) := Lib.hid ⟨(hb.cell (World.block_lt_of_cell? _ _ n0_.1)).trans n0_.1, (hb.cell (World.block_lt_of_cell? _ _ n0_.2.1)).trans n0_.2.1, (hb.cell (World.block_lt_of_cell? _ _ n0_.2.2.1)).trans n0_.2.2.1, (hb.cell (World.block_lt_of_cell? _ _ n0_.2.2.2)).trans n0_.2.2.2⟩; clear n0_
                          clear hb
                          refine hK.out _ _ HPC.out (fun hHeld => ?_)
                          clear hK K
                          refine norm_ (a' := ?_) ?_ ?_; rotate_left; (· (show Act.put _ (some 58) _ = _; simp only [Act.put, List.setIfInBounds_toArray, List.set_cons_zero, List.set_cons_succ, i64_w, i32_w]; rfl))
                          refine one_ (i := 16) (N := some 65) (fl_ 24 131071) rfl rfl (one_of HT_.out (by kernel_rfl)) (by decide) (fun K hK => ?_)
                          refine goesP_ Tryz.func49 (by kernel_rfl) rfl #[.string m] (by rfl) rfl (by (try simp only [List.map_toArray, List.map_cons, List.map_nil]); first | done | rfl) ?_
                          refine (amount_calls m HMZ.out _ HRD.out.glob).mono ?_
                          rintro e w4 ⟨he, hb⟩
                          rw [HV.out] at he
                          subst he
                          exact ⟨_, rfl, rfl, (HRD.out.step hb).below, rfl⟩
                        | some v =>
                          simp only [hv2] at hpp
                          have HV : Hid (amtEnd (amtP m) = .returned (.int .i64 v)) := Lib.hid (by rw [hv2]; rfl)
                          have HPP := Lib.hid hpp
                          have HLL : Hid ((ls.length + 1) * 32 ≤ 140737488355328) := Lib.hid (by have := HNL.out; omega)
                          clear hpp HPP2 hv2
                          refine start_ (n := 24) (S := fun W_ => W_.cell? ⟨w0.heap.size, 5, none⟩ = some (.slice Av ls.length cv) ∧ W_.cell? ⟨ab, ao, none⟩ = some (.string n) ∧ W_.cell? ⟨ab, ao + 1, none⟩ = some (.string r) ∧ W_.cell? ⟨ab, ao + 2, none⟩ = some (.string m)) (ds := [23, 19]) #[false, false, false, false, false, false, false, false, false, false, false, false, false, false, false, false, false, false, false, false, false, false, false, false] (by kernel_rfl) rfl rfl HPC.out (fun hHeld => ?_); refine with_tabW slp5_tab slp5_bits (fun HT_ HW_ => ?_)
                          have n0_ := Lib.hid (HRD.out.step (below_drew1 (Below.refl _ _))); clear HRD; have HRD := n0_; clear n0_
                          have n0_ := Lib.hid (Kd.R_drew HOW.out); clear HOW; have HOW := n0_; clear n0_
                          have n0_ : Hid ((fun W_ => W_.cell? ⟨w0.heap.size, 5, none⟩ = some (.slice Av ls.length cv) ∧ W_.cell? ⟨ab, ao, none⟩ = some (.string n) ∧ W_.cell? ⟨ab, ao + 1, none⟩ = some (.string r) ∧ W_.cell? ⟨ab, ao + 2, none⟩ = some (.string m)) w1.drew) := Lib.hid hHeld; clear HPC; have HPC := n0_; clear n0_
                          generalize w1.drew = w2 at HRD HOW HPC hHeld ⊢
                          (refine pure_ (i := 0) (N := some 49) (v := ?_) (a' := ?_) (fl_ 24 1) rfl rfl (any_of HT_.out (by kernel_rfl)) (fun _ _ _ h => h) (Or.inl ⟨by rfl, ?_⟩) ?_ ?_; rotate_left; (· (intro w'; go_simp; with_reducible rfl)); rotate_left; (· (simp only [Act.put, List.setIfInBounds_toArray, List.set_cons_zero, List.set_cons_succ, i64_w, i32_w]; rfl)))
                          (refine pure_ (i := 1) (N := some 50) (v := ?_) (a' := ?_) (fl_ 24 3) rfl rfl (any_of HT_.out (by kernel_rfl)) (fun _ _ _ h => h) (Or.inl ⟨by rfl, ?_⟩) ?_ ?_; rotate_left; (· (intro w'; go_simp; with_reducible rfl)); rotate_left; (· (simp only [Act.put, List.setIfInBounds_toArray, List.set_cons_zero, List.set_cons_succ, i64_w, i32_w]; rfl)))
                          (refine pure_ (i := 2) (N := some 51) (v := ?_) (a' := ?_) (fl_ 24 7) rfl rfl (any_of HT_.out (by kernel_rfl)) (fun _ _ _ h => h) (Or.inl ⟨by rfl, ?_⟩) ?_ ?_; rotate_left; (· (intro w'; go_simp; with_reducible rfl)); rotate_left; (· (simp only [Act.put, List.setIfInBounds_toArray, List.set_cons_zero, List.set_cons_succ, i64_w, i32_w]; rfl)))
                          (refine pure_ (i := 3) (N := some 52) (v := ?_) (a' := ?_) (fl_ 24 15) rfl rfl (any_of HT_.out (by kernel_rfl)) (fun _ _ _ h => h) (Or.inl ⟨by rfl, ?_⟩) ?_ ?_; rotate_left; (· (intro w'; go_simp; with_reducible rfl)); rotate_left; (· (simp only [Act.put, List.setIfInBounds_toArray, List.set_cons_zero, List.set_cons_succ, i64_w, i32_w]; rfl)))
                          (refine pure_ (i := 4) (N := some 53) (v := ?_) (a' := ?_) (fl_ 24 31) rfl rfl (any_of HT_.out (by kernel_rfl)) (fun _ _ _ h => h) (Or.inl ⟨by rfl, ?_⟩) ?_ ?_; rotate_left; (· (intro w'; go_simp; with_reducible rfl)); rotate_left; (· (simp only [Act.put, List.setIfInBounds_toArray, List.set_cons_zero, List.set_cons_succ, i64_w, i32_w]; rfl)))
                          (refine pure_ (i := 6) (N := some 55) (v := ?_) (a' := ?_) (fl_ 24 95) rfl rfl (any_of HT_.out (by kernel_rfl)) (fun _ _ _ h => h) (Or.inl ⟨by rfl, ?_⟩) ?_ ?_; rotate_left; (· (intro w'; go_simp; with_reducible rfl)); rotate_left; (· (simp only [Act.put, List.setIfInBounds_toArray, List.set_cons_zero, List.set_cons_succ, i64_w, i32_w]; rfl)))
                          (refine pure_ (i := 7) (N := some 56) (v := ?_) (a' := ?_) (fl_ 24 223) rfl rfl (any_of HT_.out (by kernel_rfl)) (fun _ _ _ h => h) (Or.inl ⟨by rfl, ?_⟩) ?_ ?_; rotate_left; (· (intro w'; go_simp; with_reducible rfl)); rotate_left; (· (simp only [Act.put, List.setIfInBounds_toArray, List.set_cons_zero, List.set_cons_succ, i64_w, i32_w]; rfl)))
                          (refine pure_ (i := 10) (N := some 59) (v := ?_) (a' := ?_) (fl_ 24 1247) rfl rfl (any_of HT_.out (by kernel_rfl)) (fun _ _ _ h => h) (Or.inl ⟨by rfl, ?_⟩) ?_ ?_; rotate_left; (· (intro w'; go_simp; with_reducible rfl)); rotate_left; (· (simp only [Act.put, List.setIfInBounds_toArray, List.set_cons_zero, List.set_cons_succ, i64_w, i32_w]; rfl)))
                          (refine pure_ (i := 11) (N := some 60) (v := ?_) (a' := ?_) (fl_ 24 3295) rfl rfl (any_of HT_.out (by kernel_rfl)) (fun _ _ _ h => h) (Or.inl ⟨by rfl, ?_⟩) ?_ ?_; rotate_left; (· (intro w'; go_simp; with_reducible rfl)); rotate_left; (· (simp only [Act.put, List.setIfInBounds_toArray, List.set_cons_zero, List.set_cons_succ, i64_w, i32_w]; rfl)))
                          (refine pure_ (i := 13) (N := some 62) (v := ?_) (a' := ?_) (fl_ 24 11487) rfl rfl (any_of HT_.out (by kernel_rfl)) (fun _ _ _ h => h) (Or.inl ⟨by rfl, ?_⟩) ?_ ?_; rotate_left; (· (intro w'; go_simp; with_reducible rfl)); rotate_left; (· (simp only [Act.put, List.setIfInBounds_toArray, List.set_cons_zero, List.set_cons_succ, i64_w, i32_w]; rfl)))
                          (refine pure_ (i := 14) (N := some 63) (v := ?_) (a' := ?_) (fl_ 24 27871) rfl rfl (any_of HT_.out (by kernel_rfl)) (fun _ _ _ h => h) (Or.inl ⟨by rfl, ?_⟩) ?_ ?_; rotate_left; (· (intro w'; go_simp; with_reducible rfl)); rotate_left; (· (simp only [Act.put, List.setIfInBounds_toArray, List.set_cons_zero, List.set_cons_succ, i64_w, i32_w]; rfl)))
                          (refine take_ (i := 5) (N := some 54) (v := ?_) (a' := ?_) (fl_ 24 27903) rfl rfl (take_ofW HT_.out HW_.out (by kernel_rfl)) (fun _ _ _ h => h) (Or.inl ⟨by rfl, ?_⟩) hHeld ?_ ?_; rotate_left; (· (rintro w' ⟨s0, s1, s2, s3⟩; go_simp; with_reducible rfl)); rotate_left; (· (simp only [Act.put, List.setIfInBounds_toArray, List.set_cons_zero, List.set_cons_succ, i64_w, i32_w]; rfl)))
                          (refine take_ (i := 8) (N := some 57) (v := ?_) (a' := ?_) (fl_ 24 28159) rfl rfl (take_ofW HT_.out HW_.out (by kernel_rfl)) (fun _ _ _ h => h) (Or.inl ⟨by rfl, ?_⟩) hHeld ?_ ?_; rotate_left; (· (rintro w' ⟨s0, s1, s2, s3⟩; go_simp; with_reducible rfl)); rotate_left; (· (simp only [Act.put, List.setIfInBounds_toArray, List.set_cons_zero, List.set_cons_succ, i64_w, i32_w]; rfl)))
                          (refine take_ (i := 12) (N := some 61) (v := ?_) (a' := ?_) (fl_ 24 32255) rfl rfl (take_ofW HT_.out HW_.out (by kernel_rfl)) (fun _ _ _ h => h) (Or.inl ⟨by rfl, ?_⟩) hHeld ?_ ?_; rotate_left; (· (rintro w' ⟨s0, s1, s2, s3⟩; go_simp; with_reducible rfl)); rotate_left; (· (simp only [Act.put, List.setIfInBounds_toArray, List.set_cons_zero, List.set_cons_succ, i64_w, i32_w]; rfl)))
                          (refine take_ (i := 15) (N := some 64) (v := ?_) (a' := ?_) (fl_ 24 65023) rfl rfl (take_ofW HT_.out HW_.out (by kernel_rfl)) (fun _ _ _ h => h) (Or.inl ⟨by rfl, ?_⟩) hHeld ?_ ?_; rotate_left; (· (rintro w' ⟨s0, s1, s2, s3⟩; go_simp; with_reducible rfl)); rotate_left; (· (simp only [Act.put, List.setIfInBounds_toArray, List.set_cons_zero, List.set_cons_succ, i64_w, i32_w]; rfl)))
                          refine one_ (i := 9) (N := some 58) (fl_ 24 65535) rfl rfl (one_of HT_.out (by kernel_rfl)) (by decide) (fun K hK => ?_)
                          refine goes_ Tryz.func48 (by kernel_rfl) rfl #[.string n] (by rfl) rfl rfl (by (try simp only [List.map_toArray, List.map_cons, List.map_nil]); first | done | rfl) ?_
                          refine (number_calls n HNZ.out _ HRD.out.glob).mono ?_
                          rintro e w3 ⟨he, hb⟩
                          rw [HU.out] at he
                          subst he
                          refine ⟨_, rfl, ?_⟩
                          have n0_ := Lib.hid (HRD.out.step hb); clear HRD; have HRD := n0_; clear n0_
                          have n0_ := Lib.hid (Kd.R_below HOW.out hb); clear HOW; have HOW := n0_; clear n0_
                          have n0_ := HPC.out; have HPC : Hid (w3.cell? ⟨w0.heap.size, 5, none⟩ = some (.slice Av ls.length cv) ∧ w3.cell? ⟨ab, ao, none⟩ = some (.string n) ∧ w3.cell? ⟨ab, ao + 1, none⟩ = some (.string r) ∧ w3.cell? ⟨ab, ao + 2, none⟩ = some (.string m)) := Lib.hid ⟨(hb.cell (World.block_lt_of_cell? _ _ n0_.1)).trans n0_.1, (hb.cell (World.block_lt_of_cell? _ _ n0_.2.1)).trans n0_.2.1, (hb.cell (World.block_lt_of_cell? _ _ n0_.2.2.1)).trans n0_.2.2.1, (hb.cell (World.block_lt_of_cell? _ _ n0_.2.2.2)).trans n0_.2.2.2⟩; clear n0_
                          clear hb
                          refine hK.out _ _ HPC.out (fun hHeld => ?_)
                          clear hK K
                          refine norm_ (a' := ?_) ?_ ?_; rotate_left; (· (show Act.put _ (some 58) _ = _; simp only [Act.put, List.setIfInBounds_toArray, List.set_cons_zero, List.set_cons_succ, i64_w, i32_w]; rfl))
                          refine one_ (i := 16) (N := some 65) (fl_ 24 131071) rfl rfl (one_of HT_.out (by kernel_rfl)) (by decide) (fun K hK => ?_)
                          refine goes_ Tryz.func49 (by kernel_rfl) rfl #[.string m] (by rfl) rfl rfl (by (try simp only [List.map_toArray, List.map_cons, List.map_nil]); first | done | rfl) ?_
                          refine (amount_calls m HMZ.out _ HRD.out.glob).mono ?_
                          rintro e w4 ⟨he, hb⟩
                          rw [HV.out] at he
                          subst he
                          refine ⟨_, rfl, ?_⟩
                          have n0_ := Lib.hid (HRD.out.step hb); clear HRD; have HRD := n0_; clear n0_
                          have n0_ := Lib.hid (Kd.R_below HOW.out hb); clear HOW; have HOW := n0_; clear n0_
                          have n0_ := HPC.out; have HPC : Hid (w4.cell? ⟨w0.heap.size, 5, none⟩ = some (.slice Av ls.length cv) ∧ w4.cell? ⟨ab, ao, none⟩ = some (.string n) ∧ w4.cell? ⟨ab, ao + 1, none⟩ = some (.string r) ∧ w4.cell? ⟨ab, ao + 2, none⟩ = some (.string m)) := Lib.hid ⟨(hb.cell (World.block_lt_of_cell? _ _ n0_.1)).trans n0_.1, (hb.cell (World.block_lt_of_cell? _ _ n0_.2.1)).trans n0_.2.1, (hb.cell (World.block_lt_of_cell? _ _ n0_.2.2.1)).trans n0_.2.2.1, (hb.cell (World.block_lt_of_cell? _ _ n0_.2.2.2)).trans n0_.2.2.2⟩; clear n0_
                          clear hb
                          refine hK.out _ _ HPC.out (fun hHeld => ?_)
                          clear hK K
                          refine norm_ (a' := ?_) ?_ ?_; rotate_left; (· (show Act.put _ (some 65) _ = _; simp only [Act.put, List.setIfInBounds_toArray, List.set_cons_zero, List.set_cons_succ, i64_w, i32_w]; rfl))
                          (refine pure_ (i := 17) (N := some 66) (v := ?_) (a' := ?_) (fl_ 24 262143) rfl rfl (any_of HT_.out (by kernel_rfl)) (fun _ _ _ h => h) (Or.inl ⟨by rfl, ?_⟩) ?_ ?_; rotate_left; (· (intro w'; go_simp; with_reducible rfl)); rotate_left; (· (simp only [Act.put, List.setIfInBounds_toArray, List.set_cons_zero, List.set_cons_succ, i64_w, i32_w]; rfl)))
                          refine one_ (i := 18) (N := some 67) (fl_ 24 524287) rfl rfl (one_of HT_.out (by kernel_rfl)) (by decide) (fun K hK => ?_)
                          refine value_ (w1 := ?_) (v := ?_) (by rfl) rfl ?_ ?_
                          rotate_left 2
                          · go_simp; constructor; (· rfl); (· rfl)
                          refine hK.out _ _ (hold_alloc HPC.out) (fun hHeld => ?_)
                          clear hK K
                          refine norm_ (a' := ?_) ?_ ?_; rotate_left; (· (show Act.put _ (some 67) _ = _; simp only [Act.put, List.setIfInBounds_toArray, List.set_cons_zero, List.set_cons_succ, i64_w, i32_w]; rfl))
                          refine last_ (i := 19) (N := some 68) (fl_ 24 1048575) rfl rfl (one_of HT_.out (by kernel_rfl)) (by decide) (fun K hK => ?_)
                          refine Kd.R_append_step k37 (w0 := w4) (w0.heap.size + 1) (by rfl) (.tmp 54) (.tmp 67) 23 37 (.agg #[(.int .u64 0), (.string ⟨#[]⟩), (.int .i64 0)]) 32 rfl Tryz.underlying23 info37 rfl (by decide) (by decide) (.slice Av ls.length cv) ls (⟨(u : Int), r, v⟩ : Line_) [.int .u64 (u : Int), .string r, .int .i64 v] (fun k => k ≠ w0.heap.size) (fun _ => False) rfl rfl ?aP (fun _ hk => hk.elim) ?aF ?aO ?aB ?aS ?aL ?_
                          (case aP => exact k37_mkM _ _ _ (⟨(u : Int), r, v⟩ : Line_))
                          (case aB => exact Below.refl _ _)
                          (case aF => exact (fun k hk => by have := HRD.out.lt; omega))
                          (case aO => exact HOW.out)
                          (case aS => exact HRD.out.lt)
                          (case aL => have := HLL.out; omega)
                          intro v1 w5 ho hb hg hat
                          have n0_ : Hid (RdS w0 #[(.slice A1 tl.length c1), .string a, .string b, .int .u64 (day : Int), .int .i64 op, .slice Av ls.length cv, .int .i64 0] w5) := Lib.hid ⟨HRD.out.below.trans (hb.mono (Nat.le_succ _)), HRD.out.g0, (hb.block _ (Nat.lt_succ_self _)).trans HRD.out.blk⟩; clear HRD; have HRD := n0_; clear n0_
                          obtain ⟨Av2, cv2, hv1⟩ := Kd.R_slice ho
                          obtain ⟨nl, hnl⟩ : ∃ nl, (ls ++ [(⟨(u : Int), r, v⟩ : Line_)]).length = nl := ⟨_, rfl⟩
                          rw [hnl] at hv1
                          subst hv1
                          have HNLL := Lib.hid hnl
                          clear HOW; have HOW := Lib.hid ho; clear ho hb hg hat hnl
                          refine hK.out _ _ ?_
                          clear hK K
                          refine norm_ (a' := ?_) ?_ ?_; rotate_left; (· (show Act.put _ (some 68) _ = _; simp only [Act.put, List.setIfInBounds_toArray, List.set_cons_zero, List.set_cons_succ, i64_w, i32_w]; rfl))
                          (refine pure_ (i := 20) (N := some 69) (v := ?_) (a' := ?_) (fl_ 24 2097151) rfl rfl (any_of HT_.out (by kernel_rfl)) (fun _ _ _ h => h) (Or.inl ⟨by rfl, ?_⟩) ?_ ?_; rotate_left; (· (intro w'; go_simp; with_reducible rfl)); rotate_left; (· (simp only [Act.put, List.setIfInBounds_toArray, List.set_cons_zero, List.set_cons_succ, i64_w, i32_w]; rfl)))
                          (refine pure_ (i := 21) (N := some 70) (v := ?_) (a' := ?_) (fl_ 24 4194303) rfl rfl (any_of HT_.out (by kernel_rfl)) (fun _ _ _ h => h) (Or.inl ⟨by rfl, ?_⟩) ?_ ?_; rotate_left; (· (intro w'; go_simp; with_reducible rfl)); rotate_left; (· (simp only [Act.put, List.setIfInBounds_toArray, List.set_cons_zero, List.set_cons_succ, i64_w, i32_w]; rfl)))
                          (refine pure_ (i := 22) (N := some 71) (v := ?_) (a' := ?_) (fl_ 24 8388607) rfl rfl (any_of HT_.out (by kernel_rfl)) (fun _ _ _ h => h) (Or.inl ⟨by rfl, ?_⟩) ?_ ?_; rotate_left; (· (intro w'; go_simp; with_reducible rfl)); rotate_left; (· (simp only [Act.put, List.setIfInBounds_toArray, List.set_cons_zero, List.set_cons_succ, i64_w, i32_w]; rfl)))
                          refine last_ (i := 23) (N := none) (fl_ 24 16777215) rfl rfl (one_of HT_.out (by kernel_rfl)) (by decide) (fun K hK => ?_)
                          have d3 : w5.frozen? ⟨w0.heap.size, 5, none⟩ = false := blk_frozen HRD.out.blk 5
                          have d4 : w5.cell? ⟨w0.heap.size, 5, none⟩ = some (.slice Av ls.length cv) := (blk_cell HRD.out.blk 5).trans rfl
                          refine skip_ (w1 := w5.setCell ⟨w0.heap.size, 5, none⟩ (.slice Av2 nl cv2)) (by rfl) rfl ?hr23 ?_
                          case hr23 => (go_simp; try with_reducible rfl)
                          have n0_ := Lib.hid (HRD.out.put (cs' := #[(.slice A1 tl.length c1), .string a, .string b, .int .u64 (day : Int), .int .i64 op, .slice Av2 nl cv2, .int .i64 0]) 5 (.slice Av2 nl cv2) rfl); clear HRD d3 d4; have HRD := n0_; clear n0_
                          have n0_ := Lib.hid (Kd.R_far (p := ⟨w0.heap.size, 5, none⟩) HOW.out (fun _ h => h) (.slice Av2 nl cv2)); clear HOW; have HOW := n0_; clear n0_
                          generalize w5.setCell ⟨w0.heap.size, 5, none⟩ (.slice Av2 nl cv2) = w6 at HRD HOW ⊢
                          refine hK.out _ _ ?_
                          clear hK K
                          refine done_ (done_of HT_.out (by kernel_rfl)) ?_
                          go_wp2
                          have hnl := HNLL.out
                          go_roundw
                          case rel => exact ⟨A1, tl, c1, ls ++ [(⟨(u : Int), r, v⟩ : Line_)], Av2, cv2, Lib.hid (by rw [hnl]; exact HRD.out), Lib.hid (by rw [hnl]; exact HOW.out), HC1, HC2, HSZ, Lib.hid (by have := HNL.out; rw [List.length_append]; simp only [List.length_cons, List.length_nil]; omega), Lib.hid (by rw [HPP.out]; cases postsP tl <;> simp)⟩
                          case measure => (have h1 := HME.out; have h2 := linesLeft_is HRD.out; rw [h1, h2]; simp)
                    · have hk := HK.out
                      simp only [if_neg hok] at hpp
                      rw [hpp] at hk
                      simp only [Option.map_none] at hk
                      obtain rfl : R = none := (Option.some.inj hk).symm
                      simp only [if_neg hok] at hwd
                      have HWD := Lib.hid hwd
                      clear hk HK HRD HOW hok hwd hC2 hc2 hpp
                      go_wp2_with (go_at_call 47; refine (HWD.out).mono ?_; rintro e w7 ⟨hkb, h1, he⟩; unfold gaveUp at he; subst he; have HE := Lib.hid h1; clear h1 hkb)
                      exact ⟨rfl, HE.out.below, rfl⟩
                · have hnf : nextB ⟨#[80, 79, 83, 84]⟩ tl = false := by simpa using hnx
                  rw [hnf] at HNX
                  have hpt : postsP tl = some ([], tl) := by
                    cases tl with
                    | nil => rfl
                    | cons s tl => simp only [postsP, if_neg hnx]
                  have hk := HK.out
                  rw [HPP.out, hpt] at hk
                  simp only [Option.map_some, List.append_nil] at hk
                  clear HK HPP hpt hnx hnf
                  go_upto_region 6 with (go_at_call 50; refine (HNX.out).mono ?_; rintro e w6 ⟨rfl, hb⟩; have n0_ := Lib.hid (HRD.out.step hb); have n1_ := Lib.hid (Kd.R_below HOW.out hb); clear HRD HOW hb HNX; have HRD := n0_; have HOW := n1_; clear n0_ n1_)
                  cases tl with
                  | nil =>
                    obtain rfl : R = none := by
                      simp only [takeW] at hk
                      exact (Option.some.inj hk).symm
                    have HWD := Lib.hid (words_none w0 w6 A1 c1 _ _ _ _ _ _ ⟨#[67, 76, 79, 83, 69]⟩ 2 HRD.out)
                    clear hk HRD HOW
                    go_wp2_with (go_at_call 47; refine (HWD.out).mono ?_; rintro e w7 ⟨he, h1⟩; unfold gaveUp at he; subst he; have HE := Lib.hid h1; clear h1)
                    exact ⟨rfl, HE.out.below, rfl⟩
                  | cons s tl =>
                    obtain ⟨A2, hC2, hc2, hwd⟩ := words_some w0 w6 A1 c1 s tl _ _ _ _ _ _ ⟨#[67, 76, 79, 83, 69]⟩ 2 HRD.out HC1.out HC2.out (HSZ.out s (List.mem_cons_self ..)) (by decide)
                    by_cases hok : okW ⟨#[67, 76, 79, 83, 69]⟩ 2 (splitOn s 32) = true
                    · simp only [takeW, if_pos hok] at hk
                      simp only [if_pos hok] at hwd
                      obtain ⟨z, hz⟩ := oneS (okW_len hok)
                      have hzz : z.size ≤ 140737488351232 := by
                        have h1 : z ∈ splitOn s 32 := List.mem_of_mem_drop (i := 1) (by rw [hz]; simp)
                        have := splitS_sizes h1
                        have := HSZ.out s (List.mem_cons_self ..)
                        omega
                      rw [hz] at hk hwd
                      simp only [List.getD_cons_zero] at hk
                      have HZZ := Lib.hid hzz; have HWD := Lib.hid hwd
                      clear HC1 HC2 HSZ HNL hC2 hc2 hwd hzz hok hz
                      obtain ⟨c2, hc2⟩ : ∃ c2, c1 - 1 = c2 := ⟨_, rfl⟩
                      rw [hc2] at HWD
                      clear hc2
                      cases hv : amtP z with
                      | none =>
                        simp only [hv] at hk
                        obtain rfl : R = none := (Option.some.inj hk).symm
                        have HV : Hid (amtEnd (amtP z) = .panicked [{ v := .iface 28 (.int .i64 190), recovered := false }]) := Lib.hid (by rw [hv]; rfl)
                        clear hk hv HOW
                        go_wp2_with (first | (go_at_call 47; refine (HWD.out).mono ?_; rintro e w7 ⟨hkb, hrd, Aw, cw, he, hCw, hcw⟩; subst he; obtain ⟨ab2, ao2, had, p0⟩ := cells1 hCw; subst had; clear HRD; have HRD := Lib.hid hrd; clear hkb hrd hCw hcw) | (go_at_call 49; refine (amount_calls z HZZ.out _ HRD.out.glob).mono ?_; rintro e w8 ⟨he, hb⟩; rw [HV.out] at he; subst he; have HE := Lib.hid (HRD.out.step hb).below; clear hb))
                        exact ⟨rfl, HE.out, rfl⟩
                      | some cl =>
                        simp only [hv] at hk
                        have HV : Hid (amtEnd (amtP z) = .returned (.int .i64 cl)) := Lib.hid (by rw [hv]; rfl)
                        have HK := Lib.hid hk
                        clear hk hv
                        go_upto_region 7 with (first | (go_at_call 47; refine (HWD.out).mono ?_; rintro e w7 ⟨hkb, hrd, Aw, cw, he, hCw, hcw⟩; subst he; obtain ⟨ab2, ao2, had, p0⟩ := cells1 hCw; subst had; clear HRD; have HRD := Lib.hid hrd; have n0_ := Lib.hid (Kd.R_keep HOW.out hkb (fun _ h => h)); clear HOW; have HOW := n0_; clear n0_; clear hkb hrd hCw hcw) | (go_at_call 49; refine (amount_calls z HZZ.out _ HRD.out.glob).mono ?_; rintro e w8 ⟨he, hb⟩; rw [HV.out] at he; subst he; have n0_ := Lib.hid (HRD.out.step hb); have n1_ := Lib.hid (Kd.R_below HOW.out hb); clear HRD HOW hb p0; have HRD := n0_; have HOW := n1_; clear n0_ n1_; have d3 : w8.frozen? ⟨w0.heap.size, 6, none⟩ = false := blk_frozen HRD.out.blk 6; have d4 : w8.cell? ⟨w0.heap.size, 6, none⟩ = some (.int .i64 0) := (blk_cell HRD.out.blk 6).trans rfl))
                        have n0_ := Lib.hid (HRD.out.put (cs' := #[.slice A2 tl.length c2, .string a, .string b, .int .u64 (day : Int), .int .i64 op, .slice Av ls.length cv, .int .i64 cl]) 6 (.int .i64 cl) rfl)
                        have n1_ := Lib.hid (Kd.R_far (p := ⟨w0.heap.size, 6, none⟩) HOW.out (fun _ h => h) (.int .i64 cl))
                        clear HRD HOW d3 d4 HWD HZZ HV
                        have HRD := n0_
                        have HOW := n1_
                        clear n0_ n1_
                        generalize w8.setCell ⟨w0.heap.size, 6, none⟩ (.int .i64 cl) = w9 at HRD HOW ⊢
                        have q0 : w9.cell? ⟨w0.heap.size, 0, none⟩ = some (.slice A2 tl.length c2) := (blk_cell HRD.out.blk 0).trans rfl
                        have q1 : w9.cell? ⟨w0.heap.size, 1, none⟩ = some (.string a) := (blk_cell HRD.out.blk 1).trans rfl
                        have q2 : w9.cell? ⟨w0.heap.size, 2, none⟩ = some (.string b) := (blk_cell HRD.out.blk 2).trans rfl
                        have q3 : w9.cell? ⟨w0.heap.size, 3, none⟩ = some (.int .u64 (day : Int)) := (blk_cell HRD.out.blk 3).trans rfl
                        have q4 : w9.cell? ⟨w0.heap.size, 4, none⟩ = some (.int .i64 op) := (blk_cell HRD.out.blk 4).trans rfl
                        have q5 : w9.cell? ⟨w0.heap.size, 5, none⟩ = some (.slice Av ls.length cv) := (blk_cell HRD.out.blk 5).trans rfl
                        have q6 : w9.cell? ⟨w0.heap.size, 6, none⟩ = some (.int .i64 cl) := (blk_cell HRD.out.blk 6).trans rfl
                        have hk := HK.out
                        by_cases htl : tl = []
                        · rw [if_pos htl] at hk
                          obtain ⟨cc, hck, hcc⟩ := Option.map_eq_some_iff.1 hk
                          have hre := Kd.R_reads' HOW.out
                          have HCK := Lib.hid (slip_Check.calls k a b (day : Int) op Av cv ls cl cc w9 HRD.out.glob hre.2.2 hre.2.1 hck)
                          have h0 : ((tl.length : Int) == 0) = true := by rw [htl]; rfl
                          clear hk HK hck hre htl
                          by_cases hc0 : cc = 0
                          · subst hc0
                            rw [if_pos rfl] at hcc
                            subst hcc
                            go_wp2_with (first | (go_at_call 11; refine (HCK.out).mono ?_; rintro e w10 ⟨rfl, hb⟩; have HB := Lib.hid hb; clear hb) | (go_at_call 26; refine (needs_yes _).mono ?_; rintro e w11 ⟨rfl, rfl⟩))
                            go_end0
                            exact ⟨(HRD.out.step HB.out).below, rfl, _, _, HRD.out.step HB.out, Kd.R_below HOW.out HB.out⟩
                          · rw [if_neg hc0] at hcc
                            subst hcc
                            have h1 : (cc == 0) = false := beq_eq_false_iff_ne.2 hc0
                            clear hc0
                            go_wp2_with (first | (go_at_call 11; refine (HCK.out).mono ?_; rintro e w10 ⟨rfl, hb⟩; have HB := Lib.hid hb; clear hb) | (go_at_call 26; refine (needs_no _).mono ?_; rintro e w11 ⟨rfl, rfl⟩))
                            exact ⟨rfl, (HRD.out.step HB.out).below, rfl⟩
                        · rw [if_neg htl] at hk
                          obtain rfl : R = none := (Option.some.inj hk).symm
                          have h0 : ((tl.length : Int) == 0) = false := beq_eq_false_iff_ne.2 (by
                            have : tl.length ≠ 0 := fun e => htl (List.eq_nil_of_length_eq_zero e)
                            omega)
                          clear hk HK htl
                          go_wp2_with (go_at_call 26; refine (needs_no _).mono ?_; rintro e w11 ⟨rfl, rfl⟩)
                          exact ⟨rfl, HRD.out.below, rfl⟩
                    · obtain rfl : R = none := by
                        simp only [takeW, if_neg hok] at hk
                        exact (Option.some.inj hk).symm
                      simp only [if_neg hok] at hwd
                      have HWD := Lib.hid hwd
                      clear hk HRD HOW hok hwd hC2 hc2
                      go_wp2_with (go_at_call 47; refine (HWD.out).mono ?_; rintro e w7 ⟨hkb, h1, he⟩; unfold gaveUp at he; subst he; have HE := Lib.hid h1; clear h1 hkb)
                      exact ⟨rfl, HE.out.below, rfl⟩
          · obtain rfl : R = none := by
              simp only [takeW, if_neg hok] at hk
              exact (Option.some.inj hk).symm
            simp only [if_neg hok] at hwd
            have HWD := Lib.hid hwd
            clear hk HK HRD hok hwd hC2 hc2
            go_wp2_with (go_at_call 47; refine (HWD.out).mono ?_; rintro e w7 ⟨hkb, h1, he⟩; unfold gaveUp at he; subst he; have HE := Lib.hid h1; clear h1 hkb)
            exact ⟨rfl, HE.out.below, rfl⟩
    · obtain rfl : R = none := by
        simp only [takeW, if_neg hok] at hk
        exact (Option.some.inj hk).symm
      simp only [if_neg hok] at hwd
      have HWD := Lib.hid hwd
      clear hk hC hc hs hn hR hok hwd hC1 hc1
      go_enter Tryz.func27, Tryz.ntmps27
      go_wp2_with (go_at_call 47; refine (HWD.out).mono ?_; rintro e w1 ⟨hkb, h1, he⟩; unfold gaveUp at he; subst he; have HE := Lib.hid h1; clear h1 hkb)
      exact ⟨rfl, HE.out.below, rfl⟩
end Go.Proofs.YtnngbnhbmgdkoaaGreatDoor.E
