/- The walk of slip.Text. -/
import Derived.Test.YtnngbnhbmgdkoaaGreatDoorSLine
import Derived.Test.YtnngbnhbmgdkoaaGreatDoorJCheck
import Derived.Test.YtnngbnhbmgdkoaaGreatDoorPx2
import Derived.Test.YtnngbnhbmgdkoaaGreatDoorText
import Derived.WalkKit
import Derived.BigQuiet
import Derived.Deep.QuietTactic
import Derived.Laws.EntriesVeiled
import Derived.Lib.Hide
namespace Go.Proofs.YtnngbnhbmgdkoaaGreatDoor.E
open Go.RowKit Go.Proofs.YtnngbnhbmgdkoaaGreatDoor.P Go.Proofs.YtnngbnhbmgdkoaaGreatDoorW.PrintWords Go.Proofs.YtnngbnhbmgdkoaaGreatDoorW.PrintLast
abbrev Line_ := S37
def amtOf (a : Int) : ByteArray := ⟨(intText a).toArray⟩
theorem amt_some {a : Int} (h : in64 a) : coin_Text.f a = some (amtOf a) := if_pos h
theorem joinB_size (ws : List ByteArray) : (joinB ws ⟨#[32]⟩).size = (Lib.join (ws.map (·.data.toList)) [32]).length := by
  unfold joinB
  exact List.size_toArray ..
theorem join4_size (a b c d : ByteArray) : (joinB [a, b, c, d] ⟨#[32]⟩).size = a.size + b.size + c.size + d.size + 3 := by
  rw [joinB_size]
  simp [Lib.join]
  omega
theorem join2_size (a b : ByteArray) : (joinB [a, b] ⟨#[32]⟩).size = a.size + b.size + 1 := by
  rw [joinB_size]
  simp [Lib.join]
  omega
theorem decOf_size {n : Int} (_h0 : 0 ≤ n) (h1 : n < 18446744073709551616) : (decOf n).size ≤ 21 := by
  have := (decText_facts n.toNat (by omega)).2.2.2
  have e : (decOf n).size = (decText n.toNat).length := by unfold decOf; exact List.size_toArray ..
  omega
theorem amtOf_size {a : Int} (h : in64 a) : (amtOf a).size ≤ 22 := by
  have h1 := h.1
  have h2 := h.2
  have e : (amtOf a).size = (intText a).length := by unfold amtOf; exact List.size_toArray ..
  rw [e]
  unfold intText
  split
  · have := (decText_facts a.natAbs (by omega)).2.2.2
    simp only [List.length_cons]
    omega
  · have := (decText_facts a.toNat (by omega)).2.2.2
    omega
theorem lineOf_length (ws : List ByteArray) : (lineOf ws).length = (joinB ws ⟨#[32]⟩).size + 1 := by
  unfold lineOf
  rw [List.length_append, size_len]
  rfl
def postOf (x : Line_) : List UInt8 := lineOf [⟨#[80, 79, 83, 84]⟩, decOf x.f0, x.f1, amtOf x.f2]
def headOf (who asset : ByteArray) (day op : Int) : List UInt8 := lineOf [⟨#[83, 84, 65, 84, 69, 77, 69, 78, 84]⟩, who, asset, decOf day] ++ lineOf [⟨#[79, 80, 69, 78]⟩, amtOf op]
/-- A statement's text. -/
def textOf (who asset : ByteArray) (day op : Int) (ls : List Line_) (cl : Int) : List UInt8 := headOf who asset day op ++ ls.flatMap postOf ++ lineOf [⟨#[67, 76, 79, 83, 69]⟩, amtOf cl]
def LineIn (x : Line_) : Prop := 0 ≤ x.f0 ∧ x.f0 < 18446744073709551616 ∧ x.f1.size ≤ 1000 ∧ in64 x.f2
def TextIn (who asset : ByteArray) (day op : Int) (ls : List Line_) (cl : Int) : Prop := who.size ≤ 1000 ∧ asset.size ≤ 1000 ∧ 0 ≤ day ∧ day < 18446744073709551616 ∧ in64 op ∧ in64 cl ∧ ls.length ≤ 1000 ∧ ∀ x ∈ ls, LineIn x
instance (x : Line_) : Decidable (LineIn x) := inferInstanceAs (Decidable (_ ∧ _ ∧ _ ∧ (_ ∧ _)))
instance (who asset : ByteArray) (day op : Int) (ls : List Line_) (cl : Int) : Decidable (TextIn who asset day op ls cl) := inferInstanceAs (Decidable (_ ∧ _ ∧ _ ∧ _ ∧ (_ ∧ _) ∧ (_ ∧ _) ∧ _ ∧ (∀ x ∈ ls, LineIn x)))
def slip_Text.f (k : Nat) (who asset : ByteArray) (day op : Int) (ls : List Line_) (cl : Int) : Option (ByteArray × Int) :=
  (slip_Check.f k who asset day op ls cl).bind fun c => if c = 0 then (if TextIn who asset day op ls cl then some (⟨(textOf who asset day op ls cl).toArray⟩, 0) else none) else some (⟨#[]⟩, c)
theorem slip_Text.mono : ∀ who asset day op ls cl k, LeO (slip_Text.f k who asset day op ls cl) (slip_Text.f (k + 1) who asset day op ls cl) := fun who asset day op ls cl k => by
  unfold slip_Text.f
  exact LeO.bind (slip_Check.mono _ _ _ _ _ _ _) (fun _ => LeO.refl _)
theorem post_length {x : Line_} (h : LineIn x) : (postOf x).length ≤ 3000 := by
  unfold postOf
  rw [lineOf_length, join4_size]
  have h1 := decOf_size h.1 h.2.1
  have h2 := amtOf_size h.2.2.2
  have h3 := h.2.2.1
  have h4 : (⟨#[80, 79, 83, 84]⟩ : ByteArray).size = 4 := rfl
  omega
theorem posts_length : ∀ (ls : List Line_), (∀ x ∈ ls, LineIn x) → (ls.flatMap postOf).length ≤ 3000 * ls.length
  | [], _ => Nat.le_refl _
  | x :: t, h => by
    rw [List.flatMap_cons, List.length_append, List.length_cons]
    have := post_length (h x (List.mem_cons_self ..))
    have := posts_length t (fun y hy => h y (List.mem_cons_of_mem _ hy))
    omega
theorem head_length {who asset : ByteArray} {day op : Int} (h1 : who.size ≤ 1000) (h2 : asset.size ≤ 1000) (h3 : 0 ≤ day) (h4 : day < 18446744073709551616) (h5 : in64 op) : (headOf who asset day op).length ≤ 6000 := by
  unfold headOf
  rw [List.length_append, lineOf_length, lineOf_length, join4_size, join2_size]
  have := decOf_size h3 h4
  have := amtOf_size h5
  have h4 : (⟨#[83, 84, 65, 84, 69, 77, 69, 78, 84]⟩ : ByteArray).size = 9 := rfl
  have h5 : (⟨#[79, 80, 69, 78]⟩ : ByteArray).size = 4 := rfl
  omega
/-- A call of a function's value, in a region that draws its order. -/
theorem goesV_ {P : Program} {ops : Array Oper} {Q : Exit → Act → World → Prop} {oi : Oper} {N : Option Tmp} {a : Act} {w : World} {K : Act → World → Prop} {f : FuncId} {fn : Func} {xs : Array Operand} {ts : Array TypeId} {cap : Array Value} {c : Operand} (hf : P.funcs[f]? = some fn) (hname : (fn.name == "runtime.NumGoroutine") = false) (hb : fn.body.isSome = true) (args : Array Value)
    (hw : Region.wanted oi (yielded ops a.tmps) = true) (hN : oi.dst = N) (hop : oi.op = .call { callee := .value c, args := xs, argTypes := ts }) (hc : a.eval c = .func (.func f) #[] cap) (hargs : xs.map a.eval ++ cap = args)
    (h : Calls P f args w fun e w' => ∃ v, e = .returned v ∧ K (a.put N v) w') : if Region.wanted oi (yielded ops a.tmps) = true then Oper.wp P oi a w K Q else K (a.put N undef) w := by
  refine call_ f args hw hN ?_ h
  have he := enters_ hf hname hb args w
  unfold execOp
  simp [hop, resolve, Deferred.ofValue, invoke, hc, hargs, he]
/-- While a statement's text is written: where the statement lies, and the builder; what it holds. -/
structure TI (w : World) (who asset : ByteArray) (day op : Int) (A : Option Addr) (n c : Nat) (cl : Int) (gs gb : Nat) (l : List UInt8) (W : World) : Prop where
  below : Below w.heap.size w W
  g0 : Glob w
  slip : W.heap[gs]? = some (.cells #[.string who, .string asset, .int .u64 day, .int .i64 op, .slice A n c, .int .i64 cl] 25 (0, 0))
  bld : Bld gb gb l W
  lo : w.heap.size ≤ gs
  lt : gs < gb
section
variable {w W W' : World} {who asset : ByteArray} {day op : Int} {A : Option Addr} {n c : Nat} {cl : Int} {gs gb : Nat} {l : List UInt8}
theorem TI.step (h : TI w who asset day op A n c cl gs gb l W) (hb : Below W.heap.size W W') : TI w who asset day op A n c cl gs gb l W' :=
  ⟨below_step h.below hb, h.g0, blk_below h.slip hb, h.bld.below hb, h.lo, h.lt⟩
theorem TI.glob (h : TI w who asset day op A n c cl gs gb l W) : Glob W := h.g0.below h.below
theorem TI.held (h : TI w who asset day op A n c cl gs gb l W) : W.cell? ⟨gs, 0, none⟩ = some (.string who) ∧ W.cell? ⟨gs, 1, none⟩ = some (.string asset) ∧ W.cell? ⟨gs, 2, none⟩ = some (.int .u64 day) :=
  ⟨(blk_cell h.slip 0).trans rfl, (blk_cell h.slip 1).trans rfl, (blk_cell h.slip 2).trans rfl⟩
theorem TI.line (h : TI w who asset day op A n c cl gs gb l W) {Aw : Option Addr} {cw : Nat} (ws : List ByteArray) (hC : Kd.C Kd.string W Aw ws.length ws) (hc : ws.length ≤ cw) (hl : l.length ≤ 100000000) (hw : ws.length ≤ 1000) (hj : (joinB ws ⟨#[32]⟩).size ≤ 1000000) :
    Calls Tryz.prog 16 #[.slice Aw ws.length cw, .pointer (some ⟨gb, 0, none⟩)] W fun e w' => e = .returned (.tuple #[]) ∧ TI w who asset day op A n c cl gs gb (l ++ lineOf ws) w' :=
  (line_calls gb gb l Aw cw ws W h.glob h.bld hC hc hl hw hj).mono fun _ _ ⟨he, h1, h2⟩ =>
    ⟨he, below_weaken h.below (Nat.le_of_lt (Nat.lt_of_le_of_lt h.lo h.lt)) h2, h.g0, (h2.block gs h.lt).trans h.slip, h1, h.lo, h.lt⟩
end
theorem words_new (W : World) (ws : List ByteArray) (h : ws.length ≤ 1000) : Kd.C Kd.string (W.alloc (.cells (encs Value.string ws).toArray 9)) (some ⟨W.heap.size, 0, none⟩) ws.length ws :=
  (Kd.R_reads' (Kd.R_of_own (h1 := fun _ => rfl) (ok := fun _ => True) (own_lit_of (enc := Value.string) W W.heap.size 9 ws (Nat.le_refl _) (by omega)) (fun _ _ => trivial))).2.2
theorem line_held {W : World} {gl : Nat} {x : Line_} (h : W.heap[gl]? = some (.cells #[.int .u64 x.f0, .string x.f1, .int .i64 x.f2] 37 (0, 0))) : W.cell? ⟨gl, 0, none⟩ = some (.int .u64 x.f0) ∧ W.cell? ⟨gl, 1, none⟩ = some (.string x.f1) ∧ W.cell? ⟨gl, 2, none⟩ = some (.int .i64 x.f2) :=
  ⟨(blk_cell h 0).trans rfl, (blk_cell h 1).trans rfl, (blk_cell h 2).trans rfl⟩
theorem bld_new {W : World} {g : Nat} (h : W.heap[g]? = some (.cells #[.pointer none, .slice none 0 0] 50 (0, 0))) : Bld g g [] W :=
  .inl ⟨Nat.le_refl _, _, h, World.ownsRow_nil _ _ _ _, by simp [Value.ownBlock]⟩
theorem lines_get {w : World} {A : Option Addr} {l : List Line_} (h : Kd.C k37 w A l.length l) (k : Nat) (hk : k < l.length) :
    ∃ ad, A = some ad ∧ w.cell? (ad.add (k * 3)) = some (.int .u64 l[k].f0) ∧ w.cell? ⟨(ad.add (k * 3)).block, (ad.add (k * 3)).off + 1, none⟩ = some (.string l[k].f1) ∧ w.cell? ⟨(ad.add (k * 3)).block, (ad.add (k * 3)).off + 2, none⟩ = some (.int .i64 l[k].f2) := by
  obtain ⟨ad, e, h0, h1, h2⟩ := at_T37 h (k : Int) (by omega) (by omega)
  have er : rd_T37 l (k : Int) = l[k] := by
    unfold rd_T37
    rw [List.getD_eq_getElem?_getD, Int.toNat_natCast, List.getElem?_eq_getElem hk]
    rfl
  rw [er] at h0 h1 h2
  exact ⟨ad, e, h0, h1, h2⟩
def stx7_T : Bool × List (List Nat × List Nat) := (true, [([], []), ([], []), ([1], [1]), ([], []), ([3], [3]), ([], []), ([], []), ([6], [6]), ([5, 7], [5, 7]), ([2, 4, 8], [2, 4, 8]), ([0, 9, 8], [0, 9])])
def stx7_B : List Nat := [0, 0, 2, 0, 8, 0, 0, 64, 224, 510, 1023]
theorem stx7_tab : rtab .any (opsOf Tryz.f6 7) = stx7_T := by kernel_rfl
theorem stx7_bits : waitsOk stx7_T.2 stx7_B = true := by kernel_rfl
def stx12_T : Bool × List (List Nat × List Nat) := (true, [([], []), ([], []), ([], []), ([2], [2]), ([1, 3], [1, 3]), ([], []), ([5], [5]), ([], []), ([7], [7]), ([8, 4], [8]), ([4, 6, 9], [4, 6, 9]), ([0, 10, 9], [0, 10])])
def stx12_B : List Nat := [0, 0, 0, 4, 14, 0, 32, 0, 128, 414, 1022, 2047]
theorem stx12_tab : rtab .any (opsOf Tryz.f6 12) = stx12_T := by kernel_rfl
theorem stx12_bits : waitsOk stx12_T.2 stx12_B = true := by kernel_rfl
set_option maxHeartbeats 4000000 in
set_option maxRecDepth 100000 in
set_option linter.unusedSimpArgs false in
set_option linter.unusedVariables false in
theorem slip_Text.calls (k : Nat) (who asset : ByteArray) (day op : Int) (A : Option Addr) (c : Nat) (ls : List Line_) (cl : Int) (r1 : ByteArray) (r2 : Int) (w : World) (hG : Glob w) (hr : Kd.C k37 w A ls.length ls) (hc : ls.length ≤ c) (h : slip_Text.f k who asset day op ls cl = some (r1, r2)) :
    Calls Tryz.prog 6 #[.agg #[.string who, .string asset, .int .u64 day, .int .i64 op, .slice A ls.length c, .int .i64 cl]] w fun e w' => e = .returned (.tuple #[.string r1, .int .i64 r2]) ∧ Below w.heap.size w w' := by
  unfold slip_Text.f at h
  obtain ⟨c0, hck, h⟩ := Option.bind_eq_some_iff.1 h
  have HCK : Hid (∀ W, Below w.heap.size w W → Calls Tryz.prog 11 #[.agg #[.string who, .string asset, .int .u64 day, .int .i64 op, .slice A ls.length c, .int .i64 cl]] W fun e w' => e = .returned (.int .i64 c0) ∧ Below W.heap.size W w') :=
    Lib.hid fun W hb => slip_Check.calls k who asset day op A c ls cl c0 W (hG.below hb) (Kd.C_below hr hb) hc hck
  have HR := Lib.hid hr; have HG := Lib.hid hG; have HC := Lib.hid hc
  have hmf : ∀ (fn : Fn) (first cap : Array Value) (w : World), (Instr.makeFunc fn first cap).run Tryz.prog w = .ok (.func fn first cap) w := fun _ _ _ _ => rfl
  clear hck hr hG hc
  by_cases hc0 : c0 = 0
  · subst hc0
    rw [if_pos rfl] at h
    split at h
    case isFalse => cases h
    rename_i hin
    have HF := Lib.hid (Option.some.inj h)
    have HIN := Lib.hid hin
    clear h hin
    go_enter Tryz.func6, Tryz.ntmps6
    go_upto_region 7 with (first | ((with_reducible refine gate_dst (N := 1) rfl ?_); refine box_event ?hg (N := 1) ?hd (cs := #[.string who, .string asset, .int .u64 day, .int .i64 op, .slice A ls.length c, .int .i64 cl]) (t := 25) ?hr ?_; (case hd => rfl); (case hg => rfl); (case hr => first | (go_simp; done) | (go_simp; rfl)); intro gs hgs wz hbz hbb; have HGS := Lib.hid hgs; have HX := Lib.hid hbz; have HBZ := Lib.hid hbb; have q0 : wz.cell? ⟨gs, 0, none⟩ = some (.string who) := (blk_cell hbz 0).trans rfl; have q1 : wz.cell? ⟨gs, 1, none⟩ = some (.string asset) := (blk_cell hbz 1).trans rfl; have q2 : wz.cell? ⟨gs, 2, none⟩ = some (.int .u64 day) := (blk_cell hbz 2).trans rfl; have q3 : wz.cell? ⟨gs, 3, none⟩ = some (.int .i64 op) := (blk_cell hbz 3).trans rfl; have q4 : wz.cell? ⟨gs, 4, none⟩ = some (.slice A ls.length c) := (blk_cell hbz 4).trans rfl; have q5 : wz.cell? ⟨gs, 5, none⟩ = some (.int .i64 cl) := (blk_cell hbz 5).trans rfl; clear hgs hbz hbb) | (go_at_call 11; refine (HCK.out _ HBZ.out).mono ?_; rintro e w1 ⟨rfl, hb⟩; have HX1 := Lib.hid (blk_below HX.out hb); have HB1 := Lib.hid (below_step HBZ.out hb); clear hb HX q0 q1 q2 q3 q4 q5 HCK) | ((with_reducible refine gate_dst (N := 6) rfl ?_); refine box_event ?hg (N := 6) ?hd (cs := #[.pointer none, .slice none 0 0]) (t := 50) ?hr ?_; (case hd => rfl); (case hg => rfl); (case hr => first | (go_simp; done) | (go_simp; rfl)); intro gb hgb wd hbx hb; have HTI : Hid (TI w who asset day op A ls.length c cl gs gb [] wd) := Lib.hid ⟨below_step HB1.out hb, HG.out, blk_below HX1.out hb, bld_new hbx, (by have := HGS.out; omega), (by have := blk_lt HX1.out; omega)⟩; clear hgb hbx hb HX1 HB1 HBZ HGS))
    have HLEN : Hid (([] : List UInt8).length ≤ 100000000) := Lib.hid (by decide)
    have HSZ : Hid ((joinB [⟨#[83, 84, 65, 84, 69, 77, 69, 78, 84]⟩, who, asset, decOf day] ⟨#[32]⟩).size ≤ 1000000) := Lib.hid (by
      obtain ⟨i1, i2, i3, i4, _⟩ := HIN.out
      have h1 := decOf_size i3 i4
      have h2 : (⟨#[83, 84, 65, 84, 69, 77, 69, 78, 84]⟩ : ByteArray).size = 9 := rfl
      rw [join4_size]
      omega)
    refine start_ (n := 11) (S := fun W_ => W_.cell? ⟨gs, 0, none⟩ = some (.string who) ∧ W_.cell? ⟨gs, 1, none⟩ = some (.string asset) ∧ W_.cell? ⟨gs, 2, none⟩ = some (.int .u64 day)) (ds := []) #[false, false, false, false, false, false, false, false, false, false, false] (by kernel_rfl) rfl rfl HTI.out.held (fun hHeld => ?_); refine with_tabW stx7_tab stx7_bits (fun HT_ HW_ => ?_)
    have n0_ := Lib.hid (HTI.out.step (below_drew1 (Below.refl _ _))); clear HTI; have HTI := n0_; clear n0_
    generalize wd.drew = w7 at HTI hHeld ⊢
    (refine pure_ (i := 0) (N := some 16) (v := ?_) (a' := ?_) (fl_ 11 1) rfl rfl (any_of HT_.out (by kernel_rfl)) (fun _ _ _ h => h) (Or.inl ⟨by rfl, ?_⟩) ?_ ?_; rotate_left; (· (intro w'; go_simp; with_reducible rfl)); rotate_left; (· (simp only [Act.put, List.setIfInBounds_toArray, List.set_cons_zero, List.set_cons_succ, i64_w, i32_w]; rfl)))
    (refine pure_ (i := 1) (N := some 17) (v := ?_) (a' := ?_) (fl_ 11 3) rfl rfl (any_of HT_.out (by kernel_rfl)) (fun _ _ _ h => h) (Or.inl ⟨by rfl, ?_⟩) ?_ ?_; rotate_left; (· (intro w'; go_simp; with_reducible rfl)); rotate_left; (· (simp only [Act.put, List.setIfInBounds_toArray, List.set_cons_zero, List.set_cons_succ, i64_w, i32_w]; rfl)))
    (refine pure_ (i := 3) (N := some 19) (v := ?_) (a' := ?_) (fl_ 11 11) rfl rfl (any_of HT_.out (by kernel_rfl)) (fun _ _ _ h => h) (Or.inl ⟨by rfl, ?_⟩) ?_ ?_; rotate_left; (· (intro w'; go_simp; with_reducible rfl)); rotate_left; (· (simp only [Act.put, List.setIfInBounds_toArray, List.set_cons_zero, List.set_cons_succ, i64_w, i32_w]; rfl)))
    (refine pure_ (i := 5) (N := some 21) (v := ?_) (a' := ?_) (fl_ 11 43) rfl rfl (any_of HT_.out (by kernel_rfl)) (fun _ _ _ h => h) (Or.inl ⟨by rfl, ?_⟩) ?_ ?_; rotate_left; (· (intro w'; go_simp; with_reducible rfl)); rotate_left; (· (simp only [Act.put, List.setIfInBounds_toArray, List.set_cons_zero, List.set_cons_succ, i64_w, i32_w]; rfl)))
    (refine pure_ (i := 6) (N := some 22) (v := ?_) (a' := ?_) (fl_ 11 107) rfl rfl (any_of HT_.out (by kernel_rfl)) (fun _ _ _ h => h) (Or.inl ⟨by rfl, ?_⟩) ?_ ?_; rotate_left; (· (intro w'; go_simp; with_reducible rfl)); rotate_left; (· (simp only [Act.put, List.setIfInBounds_toArray, List.set_cons_zero, List.set_cons_succ, i64_w, i32_w]; rfl)))
    (refine take_ (i := 2) (N := some 18) (v := ?_) (a' := ?_) (fl_ 11 111) rfl rfl (take_ofW HT_.out HW_.out (by kernel_rfl)) (fun _ _ _ h => h) (Or.inl ⟨by rfl, ?_⟩) hHeld ?_ ?_; rotate_left; (· (rintro w' ⟨s0, s1, s2⟩; go_simp; with_reducible rfl)); rotate_left; (· (simp only [Act.put, List.setIfInBounds_toArray, List.set_cons_zero, List.set_cons_succ, i64_w, i32_w]; rfl)))
    (refine take_ (i := 4) (N := some 20) (v := ?_) (a' := ?_) (fl_ 11 127) rfl rfl (take_ofW HT_.out HW_.out (by kernel_rfl)) (fun _ _ _ h => h) (Or.inl ⟨by rfl, ?_⟩) hHeld ?_ ?_; rotate_left; (· (rintro w' ⟨s0, s1, s2⟩; go_simp; with_reducible rfl)); rotate_left; (· (simp only [Act.put, List.setIfInBounds_toArray, List.set_cons_zero, List.set_cons_succ, i64_w, i32_w]; rfl)))
    (refine take_ (i := 7) (N := some 23) (v := ?_) (a' := ?_) (fl_ 11 255) rfl rfl (take_ofW HT_.out HW_.out (by kernel_rfl)) (fun _ _ _ h => h) (Or.inl ⟨by rfl, ?_⟩) hHeld ?_ ?_; rotate_left; (· (rintro w' ⟨s0, s1, s2⟩; go_simp; with_reducible rfl)); rotate_left; (· (simp only [Act.put, List.setIfInBounds_toArray, List.set_cons_zero, List.set_cons_succ, i64_w, i32_w]; rfl)))
    refine one_ (i := 8) (N := some 24) (fl_ 11 511) rfl rfl (one_of HT_.out (by kernel_rfl)) (by decide) (fun K hK => ?_)
    refine goesV_ Tryz.func14 (by kernel_rfl) rfl #[.int .u64 day] (by rfl) rfl rfl (by rfl) (by (try simp only [List.map_toArray, List.map_cons, List.map_nil]); first | done | rfl | (simp [Act.eval]; done)) ?_
    refine (decimal_calls day HIN.out.2.2.1 HIN.out.2.2.2.1 _ HTI.out.glob).mono ?_
    rintro e w8 ⟨rfl, hb⟩
    refine ⟨_, rfl, ?_⟩
    have n0_ := Lib.hid (HTI.out.step hb); clear HTI hb; have HTI := n0_; clear n0_
    refine hK.out _ _ HTI.out.held (fun hHeld => ?_)
    clear hK K
    refine norm_ (a' := ?_) ?_ ?_; rotate_left; (· (show Act.put _ (some 24) _ = _; simp only [Act.put, List.setIfInBounds_toArray, List.set_cons_zero, List.set_cons_succ, i64_w, i32_w]; rfl))
    refine one_ (i := 9) (N := some 25) (fl_ 11 1023) rfl rfl (one_of HT_.out (by kernel_rfl)) (by decide) (fun K hK => ?_)
    refine lit_step (by rfl) (inner := #[.string ⟨#[83, 84, 65, 84, 69, 77, 69, 78, 84]⟩, .string who, .string asset, .string (decOf day)]) (e := 9) (n := 4) ?hr2 ?_
    case hr2 => first | (go_simp; done) | (go_simp; rfl)
    have HRW := Lib.hid (words_new w8 [⟨#[83, 84, 65, 84, 69, 77, 69, 78, 84]⟩, who, asset, decOf day] (by simp))
    have n0_ := Lib.hid (HTI.out.step (below_alloc (Below.refl _ _) (.cells #[.string ⟨#[83, 84, 65, 84, 69, 77, 69, 78, 84]⟩, .string who, .string asset, .string (decOf day)] 9))); clear HTI; have HTI := n0_; clear n0_
    refine hK.out _ _ HTI.out.held (fun hHeld => ?_)
    clear hK K
    refine norm_ (a' := ?_) ?_ ?_; rotate_left; (· (show Act.put _ (some 25) _ = _; simp only [Act.put, List.setIfInBounds_toArray, List.set_cons_zero, List.set_cons_succ, i64_w, i32_w]; rfl))
    refine one_ (i := 10) (N := some 26) (fl_ 11 2047) rfl rfl (one_of HT_.out (by kernel_rfl)) (by decide) (fun K hK => ?_)
    refine goesV_ Tryz.func16 (by kernel_rfl) rfl #[.slice (some ⟨w8.heap.size, 0, none⟩) 4 4, .pointer (some ⟨gb, 0, none⟩)] (by rfl) rfl rfl (by rfl) (by (try simp only [List.map_toArray, List.map_cons, List.map_nil]); first | done | rfl | (simp [Act.eval]; done)) ?_
    refine (HTI.out.line (cw := 4) [⟨#[83, 84, 65, 84, 69, 77, 69, 78, 84]⟩, who, asset, decOf day] HRW.out (by simp) HLEN.out (by simp) HSZ.out).mono ?_
    rintro e w9 ⟨rfl, hti⟩
    refine ⟨_, rfl, ?_⟩
    clear HTI HRW; have HTI := Lib.hid hti; clear hti
    refine hK.out _ _ HTI.out.held (fun hHeld => ?_)
    clear hK K
    refine norm_ (a' := ?_) ?_ ?_; rotate_left; (· (show Act.put _ (some 26) _ = _; simp only [Act.put, List.setIfInBounds_toArray, List.set_cons_zero, List.set_cons_succ, i64_w, i32_w]; rfl))
    refine done_ (done_of HT_.out (by kernel_rfl)) ?_
    clear HLEN HSZ
    have q3 : w9.cell? ⟨gs, 3, none⟩ = some (.int .i64 op) := (blk_cell HTI.out.slip 3).trans rfl
    have HLEN : Hid (([] ++ lineOf [⟨#[83, 84, 65, 84, 69, 77, 69, 78, 84]⟩, who, asset, decOf day] : List UInt8).length ≤ 100000000) := Lib.hid (by
      obtain ⟨i1, i2, i3, i4, i5, _⟩ := HIN.out
      have := head_length i1 i2 i3 i4 i5
      unfold headOf at this
      rw [List.length_append] at this
      simp only [List.nil_append]
      omega)
    have HSZ : Hid ((joinB [⟨#[79, 80, 69, 78]⟩, amtOf op] ⟨#[32]⟩).size ≤ 1000000) := Lib.hid (by
      have h1 := amtOf_size HIN.out.2.2.2.2.1
      have h2 : (⟨#[79, 80, 69, 78]⟩ : ByteArray).size = 4 := rfl
      rw [join2_size]
      omega)
    go_wp2_with (first | (go_at_call 19; refine (coin_Text.calls op (amtOf op) _ HTI.out.glob (amt_some HIN.out.2.2.2.2.1)).mono ?_; rintro e w10 ⟨rfl, hb⟩; have n0_ := Lib.hid (HTI.out.step hb); clear HTI hb q3; have HTI := n0_; clear n0_) | (go_at_call 16; refine ((HTI.out.step (below_alloc (Below.refl _ _) (.cells #[.string ⟨#[79, 80, 69, 78]⟩, .string (amtOf op)] 9))).line (cw := 2) [⟨#[79, 80, 69, 78]⟩, amtOf op] (words_new _ _ (by simp)) (by simp) HLEN.out (by simp) HSZ.out).mono ?_; rintro e w11 ⟨rfl, hti⟩; have q4 : w11.cell? ⟨gs, 4, none⟩ = some (.slice A ls.length c) := (blk_cell hti.slip 4).trans rfl; clear HTI; have HTI := Lib.hid hti; clear hti))
    clear HLEN HSZ q4
    have HT2 : Hid (TI w who asset day op A ls.length c cl gs gb (headOf who asset day op ++ (ls.take 0).flatMap postOf) w11) := Lib.hid (by have := HTI.out; unfold headOf; simpa using this)
    clear HTI
    go_loopw [36] (fun i wr => ∃ kk : Nat, kk ≤ ls.length ∧ i = .int .i64 kk ∧ Hid (TI w who asset day op A ls.length c cl gs gb (headOf who asset day op ++ (ls.take kk).flatMap postOf) wr)) (fun i _ => ls.length - (intOf i).toNat)
    case atStart => exact ⟨0, Nat.zero_le _, rfl, HT2⟩
    case round =>
      clear HT2
      obtain ⟨kk, hk, rfl, HTI⟩ := hrel
      obtain ⟨wo, rfl⟩ : ∃ wo : World, wo = wr := ⟨_, rfl⟩
      have HLEN : Hid ((headOf who asset day op ++ (ls.take kk).flatMap postOf).length ≤ 100000000) := Lib.hid (by
        obtain ⟨i1, i2, i3, i4, i5, _, i7, i8⟩ := HIN.out
        have := head_length i1 i2 i3 i4 i5
        have h2 := posts_length (ls.take kk) (fun x hx => i8 x (List.mem_of_mem_take hx))
        rw [List.length_take] at h2
        rw [List.length_append]
        omega)
      by_cases hlt : kk < ls.length
      · have hn1 : decide ((kk : Int) < (ls.length : Int)) = true := decide_eq_true (by omega)
        have hn2 : decide (kk < ls.length) = true := decide_eq_true hlt
        obtain ⟨ad, had, p0, p1, p2⟩ := lines_get (Kd.C_below HR.out HTI.out.below) kk hlt
        obtain ⟨x, hx⟩ : ∃ x, ls[kk] = x := ⟨_, rfl⟩
        rw [hx] at p0 p1 p2
        have HXI : Hid (LineIn x) := Lib.hid (hx ▸ HIN.out.2.2.2.2.2.2.2 _ (List.getElem_mem hlt))
        have HNX : Hid (headOf who asset day op ++ (ls.take (kk + 1)).flatMap postOf = headOf who asset day op ++ (ls.take kk).flatMap postOf ++ postOf x) := Lib.hid (by
          rw [List.take_succ_eq_append_getElem hlt, List.flatMap_append, hx, List.append_assoc]
          simp)
        subst had
        have HLT := Lib.hid hlt
        clear hx
        obtain ⟨lx, hlx⟩ : ∃ lx, headOf who asset day op ++ (ls.take kk).flatMap postOf = lx := ⟨_, rfl⟩
        rw [hlx] at HTI HLEN HNX
        clear hlx
        have HSZ : Hid ((joinB [⟨#[80, 79, 83, 84]⟩, decOf x.f0, x.f1, amtOf x.f2] ⟨#[32]⟩).size ≤ 1000000) := Lib.hid (by
          obtain ⟨i1, i2, i3, i4⟩ := HXI.out
          have h1 := decOf_size i1 i2
          have h2 := amtOf_size i4
          have h3 : (⟨#[80, 79, 83, 84]⟩ : ByteArray).size = 4 := rfl
          rw [join4_size]
          omega)
        have hz : ∀ W7, Below wo.heap.size wo W7 → ∀ g, wo.heap.size ≤ g → ∀ u0 u1 u2, Below wo.heap.size wo (((W7.setCell ⟨g, 0, none⟩ u0).setCell ⟨g, 1, none⟩ u1).setCell ⟨g, 2, none⟩ u2) := fun W7 h g hg _ _ _ => below_set (below_set (below_set h hg) hg) hg
        have HZ := Lib.hid hz; clear hz
        go_upto_region 12 with ((with_reducible refine gate_dst (N := 9) rfl ?_); refine box_event ?hg (N := 9) ?hd (cs := #[.int .u64 0, .string ⟨#[]⟩, .int .i64 0]) (t := 37) ?hr ?_; (case hd => rfl); (case hg => rfl); (case hr => first | (go_simp; done) | (go_simp; rfl)); intro gl hgl w5 hbx hb; have d0 : w5.cell? ⟨gl, 0, none⟩ = some (.int .u64 0) := (blk_cell hbx 0).trans rfl; have d1 : w5.cell? ⟨gl, 1, none⟩ = some (.string ⟨#[]⟩) := (blk_cell hbx 1).trans rfl; have d2 : w5.cell? ⟨gl, 2, none⟩ = some (.int .i64 0) := (blk_cell hbx 2).trans rfl; have e0 := blk_frozen hbx 0; have e1 := blk_frozen hbx 1; have e2 := blk_frozen hbx 2; have n0_ := Lib.hid (HTI.out.step (HZ.out w5 hb gl (by omega) (.int .u64 x.f0) (.string x.f1) (.int .i64 x.f2))); clear HTI; have HTI := n0_; clear n0_; have HBK := Lib.hid (blk_put (blk_put (blk_put (cs' := #[.int .u64 x.f0, .string ⟨#[]⟩, .int .i64 0]) hbx 0 (.int .u64 x.f0) rfl) (cs' := #[.int .u64 x.f0, .string x.f1, .int .i64 0]) 1 (.string x.f1) rfl) (cs' := #[.int .u64 x.f0, .string x.f1, .int .i64 x.f2]) 2 (.int .i64 x.f2) rfl); clear hbx hb hgl)
        generalize (((w5.setCell ⟨gl, 0, none⟩ (.int .u64 x.f0)).setCell ⟨gl, 1, none⟩ (.string x.f1)).setCell ⟨gl, 2, none⟩ (.int .i64 x.f2)) = wl at HTI HBK ⊢
        clear d0 d1 d2 e0 e1 e2 HZ p0 p1 p2
        refine start_ (n := 12) (S := fun W_ => W_.cell? ⟨gl, 0, none⟩ = some (.int .u64 x.f0) ∧ W_.cell? ⟨gl, 1, none⟩ = some (.string x.f1) ∧ W_.cell? ⟨gl, 2, none⟩ = some (.int .i64 x.f2)) (ds := [11]) #[false, false, false, false, false, false, false, false, false, false, false, false] (by kernel_rfl) rfl rfl (line_held HBK.out) (fun hHeld => ?_); refine with_tabW stx12_tab stx12_bits (fun HT_ HW_ => ?_)
        have n0_ := Lib.hid (HTI.out.step (below_drew1 (Below.refl _ _))); clear HTI; have HTI := n0_; clear n0_
        have n0_ := Lib.hid (blk_drew HBK.out); clear HBK; have HBK := n0_; clear n0_
        generalize wl.drew = w12 at HTI HBK hHeld ⊢
        (refine pure_ (i := 0) (N := some 40) (v := ?_) (a' := ?_) (fl_ 12 1) rfl rfl (any_of HT_.out (by kernel_rfl)) (fun _ _ _ h => h) (Or.inl ⟨by rfl, ?_⟩) ?_ ?_; rotate_left; (· (intro w'; go_simp; with_reducible rfl)); rotate_left; (· (simp only [Act.put, List.setIfInBounds_toArray, List.set_cons_zero, List.set_cons_succ, i64_w, i32_w]; rfl)))
        (refine pure_ (i := 1) (N := some 41) (v := ?_) (a' := ?_) (fl_ 12 3) rfl rfl (any_of HT_.out (by kernel_rfl)) (fun _ _ _ h => h) (Or.inl ⟨by rfl, ?_⟩) ?_ ?_; rotate_left; (· (intro w'; go_simp; with_reducible rfl)); rotate_left; (· (simp only [Act.put, List.setIfInBounds_toArray, List.set_cons_zero, List.set_cons_succ, i64_w, i32_w]; rfl)))
        (refine pure_ (i := 2) (N := some 42) (v := ?_) (a' := ?_) (fl_ 12 7) rfl rfl (any_of HT_.out (by kernel_rfl)) (fun _ _ _ h => h) (Or.inl ⟨by rfl, ?_⟩) ?_ ?_; rotate_left; (· (intro w'; go_simp; with_reducible rfl)); rotate_left; (· (simp only [Act.put, List.setIfInBounds_toArray, List.set_cons_zero, List.set_cons_succ, i64_w, i32_w]; rfl)))
        (refine pure_ (i := 5) (N := some 45) (v := ?_) (a' := ?_) (fl_ 12 39) rfl rfl (any_of HT_.out (by kernel_rfl)) (fun _ _ _ h => h) (Or.inl ⟨by rfl, ?_⟩) ?_ ?_; rotate_left; (· (intro w'; go_simp; with_reducible rfl)); rotate_left; (· (simp only [Act.put, List.setIfInBounds_toArray, List.set_cons_zero, List.set_cons_succ, i64_w, i32_w]; rfl)))
        (refine pure_ (i := 7) (N := some 47) (v := ?_) (a' := ?_) (fl_ 12 167) rfl rfl (any_of HT_.out (by kernel_rfl)) (fun _ _ _ h => h) (Or.inl ⟨by rfl, ?_⟩) ?_ ?_; rotate_left; (· (intro w'; go_simp; with_reducible rfl)); rotate_left; (· (simp only [Act.put, List.setIfInBounds_toArray, List.set_cons_zero, List.set_cons_succ, i64_w, i32_w]; rfl)))
        (refine take_ (i := 3) (N := some 43) (v := ?_) (a' := ?_) (fl_ 12 175) rfl rfl (take_ofW HT_.out HW_.out (by kernel_rfl)) (fun _ _ _ h => h) (Or.inl ⟨by rfl, ?_⟩) hHeld ?_ ?_; rotate_left; (· (rintro w' ⟨s0, s1, s2⟩; go_simp; with_reducible rfl)); rotate_left; (· (simp only [Act.put, List.setIfInBounds_toArray, List.set_cons_zero, List.set_cons_succ, i64_w, i32_w]; rfl)))
        (refine take_ (i := 6) (N := some 46) (v := ?_) (a' := ?_) (fl_ 12 239) rfl rfl (take_ofW HT_.out HW_.out (by kernel_rfl)) (fun _ _ _ h => h) (Or.inl ⟨by rfl, ?_⟩) hHeld ?_ ?_; rotate_left; (· (rintro w' ⟨s0, s1, s2⟩; go_simp; with_reducible rfl)); rotate_left; (· (simp only [Act.put, List.setIfInBounds_toArray, List.set_cons_zero, List.set_cons_succ, i64_w, i32_w]; rfl)))
        (refine take_ (i := 8) (N := some 48) (v := ?_) (a' := ?_) (fl_ 12 495) rfl rfl (take_ofW HT_.out HW_.out (by kernel_rfl)) (fun _ _ _ h => h) (Or.inl ⟨by rfl, ?_⟩) hHeld ?_ ?_; rotate_left; (· (rintro w' ⟨s0, s1, s2⟩; go_simp; with_reducible rfl)); rotate_left; (· (simp only [Act.put, List.setIfInBounds_toArray, List.set_cons_zero, List.set_cons_succ, i64_w, i32_w]; rfl)))
        refine one_ (i := 4) (N := some 44) (fl_ 12 511) rfl rfl (one_of HT_.out (by kernel_rfl)) (by decide) (fun K hK => ?_)
        refine goesV_ Tryz.func14 (by kernel_rfl) rfl #[.int .u64 x.f0] (by rfl) rfl rfl (by rfl) (by (try simp only [List.map_toArray, List.map_cons, List.map_nil]); first | done | rfl | (simp [Act.eval]; done)) ?_
        refine (decimal_calls x.f0 HXI.out.1 HXI.out.2.1 _ HTI.out.glob).mono ?_
        rintro e w13 ⟨rfl, hb⟩
        refine ⟨_, rfl, ?_⟩
        have n0_ := Lib.hid (blk_below HBK.out hb); clear HBK; have HBK := n0_; clear n0_
        have n0_ := Lib.hid (HTI.out.step hb); clear HTI hb; have HTI := n0_; clear n0_
        refine hK.out _ _ (line_held HBK.out) (fun hHeld => ?_)
        clear hK K
        refine norm_ (a' := ?_) ?_ ?_; rotate_left; (· (show Act.put _ (some 44) _ = _; simp only [Act.put, List.setIfInBounds_toArray, List.set_cons_zero, List.set_cons_succ, i64_w, i32_w]; rfl))
        refine one_ (i := 9) (N := some 49) (fl_ 12 1023) rfl rfl (one_of HT_.out (by kernel_rfl)) (by decide) (fun K hK => ?_)
        refine goes_ Tryz.func19 (by kernel_rfl) rfl #[.int .i64 x.f2] (by rfl) rfl rfl (by (try simp only [List.map_toArray, List.map_cons, List.map_nil]); first | done | rfl) ?_
        refine (coin_Text.calls x.f2 (amtOf x.f2) _ HTI.out.glob (amt_some HXI.out.2.2.2)).mono ?_
        rintro e w14 ⟨rfl, hb⟩
        refine ⟨_, rfl, ?_⟩
        have n0_ := Lib.hid (blk_below HBK.out hb); clear HBK; have HBK := n0_; clear n0_
        have n0_ := Lib.hid (HTI.out.step hb); clear HTI hb; have HTI := n0_; clear n0_
        refine hK.out _ _ (line_held HBK.out) (fun hHeld => ?_)
        clear hK K
        refine norm_ (a' := ?_) ?_ ?_; rotate_left; (· (show Act.put _ (some 49) _ = _; simp only [Act.put, List.setIfInBounds_toArray, List.set_cons_zero, List.set_cons_succ, i64_w, i32_w]; rfl))
        refine one_ (i := 10) (N := some 50) (fl_ 12 2047) rfl rfl (one_of HT_.out (by kernel_rfl)) (by decide) (fun K hK => ?_)
        refine lit_step (by rfl) (inner := #[.string ⟨#[80, 79, 83, 84]⟩, .string (decOf x.f0), .string x.f1, .string (amtOf x.f2)]) (e := 9) (n := 4) ?hr6 ?_
        case hr6 => first | (go_simp; done) | (go_simp; rfl)
        have HRW := Lib.hid (words_new w14 [⟨#[80, 79, 83, 84]⟩, decOf x.f0, x.f1, amtOf x.f2] (by simp))
        have n0_ := Lib.hid (blk_below HBK.out (below_alloc (Below.refl _ _) (.cells #[.string ⟨#[80, 79, 83, 84]⟩, .string (decOf x.f0), .string x.f1, .string (amtOf x.f2)] 9))); clear HBK; have HBK := n0_; clear n0_
        have n0_ := Lib.hid (HTI.out.step (below_alloc (Below.refl _ _) (.cells #[.string ⟨#[80, 79, 83, 84]⟩, .string (decOf x.f0), .string x.f1, .string (amtOf x.f2)] 9))); clear HTI; have HTI := n0_; clear n0_
        refine hK.out _ _ (line_held HBK.out) (fun hHeld => ?_)
        clear hK K
        refine norm_ (a' := ?_) ?_ ?_; rotate_left; (· (show Act.put _ (some 50) _ = _; simp only [Act.put, List.setIfInBounds_toArray, List.set_cons_zero, List.set_cons_succ, i64_w, i32_w]; rfl))
        refine last_ (i := 11) (N := some 51) (fl_ 12 4095) rfl rfl (one_of HT_.out (by kernel_rfl)) (by decide) (fun K hK => ?_)
        refine goesV_ Tryz.func16 (by kernel_rfl) rfl #[.slice (some ⟨w14.heap.size, 0, none⟩) 4 4, .pointer (some ⟨gb, 0, none⟩)] (by rfl) rfl rfl (by rfl) (by (try simp only [List.map_toArray, List.map_cons, List.map_nil]); first | done | rfl | (simp [Act.eval]; done)) ?_
        refine (HTI.out.line (cw := 4) [⟨#[80, 79, 83, 84]⟩, decOf x.f0, x.f1, amtOf x.f2] HRW.out (by simp) HLEN.out (by simp) HSZ.out).mono ?_
        rintro e w15 ⟨rfl, hti⟩
        refine ⟨_, rfl, ?_⟩
        clear HTI HRW HBK; have HTI := Lib.hid hti; clear hti
        refine hK.out _ _ ?_
        clear hK K
        refine norm_ (a' := ?_) ?_ ?_; rotate_left; (· (show Act.put _ (some 51) _ = _; simp only [Act.put, List.setIfInBounds_toArray, List.set_cons_zero, List.set_cons_succ, i64_w, i32_w]; rfl))
        refine done_ (done_of HT_.out (by kernel_rfl)) ?_
        have hlt := HLT.out
        have hmx : ls.length ≤ 1000 := HIN.out.2.2.2.2.2.2.1
        go_wp2
        go_roundw
        case rel => exact ⟨kk + 1, by omega, by go_num, Lib.hid (by rw [HNX.out]; exact HTI.out)⟩
        case measure => simp [intOf]; omega
      · obtain rfl : kk = ls.length := by omega
        have hn1 : decide ((ls.length : Int) < (ls.length : Int)) = false := decide_eq_false (by omega)
        have hn2 : decide (ls.length < ls.length) = false := decide_eq_false (by omega)
        rw [List.take_length] at HTI HLEN
        obtain ⟨tx, htx⟩ : ∃ tx, textOf who asset day op ls cl = tx := ⟨_, rfl⟩
        rw [htx] at HF
        obtain ⟨rfl, rfl⟩ := Prod.mk.inj HF.out
        have HTX := Lib.hid htx
        clear htx HF
        have q5 : wo.cell? ⟨gs, 5, none⟩ = some (.int .i64 cl) := (blk_cell HTI.out.slip 5).trans rfl
        have HSZ : Hid ((joinB [⟨#[67, 76, 79, 83, 69]⟩, amtOf cl] ⟨#[32]⟩).size ≤ 1000000) := Lib.hid (by
          have h1 := amtOf_size HIN.out.2.2.2.2.2.1
          have h2 : (⟨#[67, 76, 79, 83, 69]⟩ : ByteArray).size = 5 := rfl
          rw [join2_size]
          omega)
        go_wp2_with (first | (go_at_call 19; refine (coin_Text.calls cl (amtOf cl) _ HTI.out.glob (amt_some HIN.out.2.2.2.2.2.1)).mono ?_; rintro e w10 ⟨rfl, hb⟩; have n0_ := Lib.hid (HTI.out.step hb); clear HTI hb q5; have HTI := n0_; clear n0_) | (go_at_call 16; refine ((HTI.out.step (below_alloc (Below.refl _ _) (.cells #[.string ⟨#[67, 76, 79, 83, 69]⟩, .string (amtOf cl)] 9))).line (cw := 2) [⟨#[67, 76, 79, 83, 69]⟩, amtOf cl] (words_new _ _ (by simp)) (by simp) HLEN.out (by simp) HSZ.out).mono ?_; rintro e w12 ⟨rfl, hti⟩; clear HTI; have HTI : Hid (TI w who asset day op A ls.length c cl gs gb tx w12) := Lib.hid (HTX.out ▸ hti); clear hti) | (go_at_call 20; refine (Tryz.Builder_String_any gb gb _ _ HTI.out.bld (Nat.le_of_lt HTI.out.bld.lt)).mono ?_; rintro e w13 ⟨rfl, hb⟩; have HB13 := Lib.hid hb; clear hb))
        go_ret2
        exact ⟨rfl, below_weaken HTI.out.below (Nat.le_of_lt (Nat.lt_of_le_of_lt HTI.out.lo HTI.out.lt)) HB13.out⟩
  · have hn : (c0 != 0) = true := bne_iff_ne.2 hc0
    rw [if_neg hc0] at h
    obtain ⟨rfl, rfl⟩ := Prod.mk.inj (Option.some.inj h)
    clear h hc0
    go_enter Tryz.func6, Tryz.ntmps6
    go_wp2_with (first | ((with_reducible refine gate_dst (N := 1) rfl ?_); refine box_event ?hg (N := 1) ?hd (cs := #[.string who, .string asset, .int .u64 day, .int .i64 op, .slice A ls.length c, .int .i64 cl]) (t := 25) ?hr ?_; (case hd => rfl); (case hg => rfl); (case hr => first | (go_simp; done) | (go_simp; rfl)); intro gs hgs wz hbz hbb; have HBZ := Lib.hid hbb; have q0 : wz.cell? ⟨gs, 0, none⟩ = some (.string who) := (blk_cell hbz 0).trans rfl; have q1 : wz.cell? ⟨gs, 1, none⟩ = some (.string asset) := (blk_cell hbz 1).trans rfl; have q2 : wz.cell? ⟨gs, 2, none⟩ = some (.int .u64 day) := (blk_cell hbz 2).trans rfl; have q3 : wz.cell? ⟨gs, 3, none⟩ = some (.int .i64 op) := (blk_cell hbz 3).trans rfl; have q4 : wz.cell? ⟨gs, 4, none⟩ = some (.slice A ls.length c) := (blk_cell hbz 4).trans rfl; have q5 : wz.cell? ⟨gs, 5, none⟩ = some (.int .i64 cl) := (blk_cell hbz 5).trans rfl; clear hgs hbz hbb) | (go_at_call 11; refine (HCK.out _ HBZ.out).mono ?_; rintro e w1 ⟨rfl, hb⟩; have HB1 := Lib.hid (below_step HBZ.out hb); clear hb HBZ q0 q1 q2 q3 q4 q5 HCK))
    go_ret2
    exact ⟨rfl, HB1.out⟩
end Go.Proofs.YtnngbnhbmgdkoaaGreatDoor.E
