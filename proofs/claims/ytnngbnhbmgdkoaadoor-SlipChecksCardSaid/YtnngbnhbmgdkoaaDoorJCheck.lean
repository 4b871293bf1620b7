/- The walk of journal.Check: a map of the amounts of each asset, and a range over it. -/
import Derived.Test.YtnngbnhbmgdkoaaDoorJPure
import Derived.Test.YtnngbnhbmgdkoaaDoorSum
import Derived.Test.YtnngbnhbmgdkoaaDoorNames
import Derived.Test.YtnngbnhbmgdkoaaDoorWTab
import Derived.Test.YtnngbnhbmgdkoaaDoorPx2
import Derived.Maps.OwnRows
import Derived.Maps.GroupsBeside
import Derived.Maps.RangeWalk
import Derived.Maps.Views
import Derived.WalkArith
import Derived.Lib.Hide
namespace Go.Proofs.YtnngbnhbmgdkoaaDoor.E
open Go.RowKit Go.Proofs.YtnngbnhbmgdkoaaDoor.P Go.Proofs.YtnngbnhbmgdkoaaDoorW.PrintWords Go.Proofs.YtnngbnhbmgdkoaaDoorW.PrintLast
/-- What was boxed lies where it was laid. -/
structure CI (w : World) (cs : Array Value) (W : World) : Prop where
  blk : W.heap[w.heap.size]? = some (.cells cs 45 (0, 0))
  below : Below w.heap.size w W
  glob : Glob W
theorem CI.start {w : World} {cs : Array Value} (h : Glob w) : CI w cs (w.alloc (.cells cs 45)) := ⟨heap_alloc_new _ _, below_alloc (Below.refl _ _) _, h.below (below_alloc (Below.refl _ _) _)⟩
theorem CI.step {w W W' : World} {cs : Array Value} (h : CI w cs W) (hb : Below W.heap.size W W') : CI w cs W' := ⟨blk_below h.blk hb, below_then h.below h.below.size hb, h.glob.below hb⟩
/-- The numbers of a slice that is read as data. -/
def intsOf : DataW Unit → List Int
  | .slice es _ => es.map fun d => match d with
    | .lit (.int _ x) => x
    | _ => 0
  | _ => []
theorem ints_row {w : World} {base e : Nat} {v : Value} {zs : List Int} (h : w.ownsInts base e .i64 v zs) : intsOf (rowDatum .i64 v zs) = zs := by
  rcases h.datum (H := Unit) with ⟨h1, rfl⟩ | h1
  · rw [h1]
    rfl
  · rw [h1]
    unfold intsOf ChangeShapes.lits
    simp only [List.map_map]
    exact (List.map_congr_left (fun x _ => rfl)).trans (List.map_id zs)
/-- The map under way: it holds the amounts of the legs so far, by their assets. -/
structure MI (w : World) (B : Nat) (l : List Leg_) (k : Nat) (W : World) : Prop where
  below : Below w.heap.size w W
  g0 : Glob w
  hB : w.heap.size ≤ B
  lt : B < W.heap.size
  map : ∃ D : DataW Unit, W.ownsGroups Tryd.prog 9 (B + 1) 2 .i64 B k D ∧ Maps.IsMap D ∧ ∀ a : ByteArray, intsOf (D.atKey (.string a.data.toList) .nil) = amtsOf (l.take k) a
theorem MI.step {w W W' : World} {B k : Nat} {l : List Leg_} (h : MI w B l k W) (hb : Below W.heap.size W W') : MI w B l k W' := by
  obtain ⟨D, hD, h1, h2⟩ := h.map
  exact ⟨below_step h.below hb, h.g0, h.hB, Nat.lt_of_lt_of_le h.lt hb.size, D, hD.kept (grown_of_below hb none) (by simp) (fun es clock _ x _ => by cases x.val.ownBlock <;> simp), h1, h2⟩
theorem MI.glob {w W : World} {B k : Nat} {l : List Leg_} (h : MI w B l k W) : Glob W := h.g0.below h.below
theorem law_s : Maps.Keyed Tryd.prog 9 := Maps.string_keyed Tryd.underlying9
theorem zero_l (w : World) : (zeroValue 76).run Tryd.prog w = .ok (.slice none 0 0) w := by kernel_rfl
theorem info_i : (Tryd.prog.info? 2).map (fun i => (i.zero, i.size, i.bytes)) = some (some (.int .i64 0), 1, 8) := by kernel_rfl
theorem key_inj {a b : ByteArray} (h : (Lit.string a.data.toList) = .string b.data.toList) : a = b := text_ext (by injection h)
/-- One more leg. -/
theorem map_step {D : DataW Unit} {l : List Leg_} {k : Nat} {g : Leg_} {v v' : Value} {zs : List Int} {w w1 : World} {b e : Nat} (hk : k < l.length) (hg : l.getD k ⟨⟨#[]⟩, ⟨#[]⟩, 0⟩ = g) (hm : Maps.IsMap D) (hkey : WideAt.IsKeyLit (.string g.f1.data.toList))
    (hd : ∀ a : ByteArray, intsOf (D.atKey (.string a.data.toList) .nil) = amtsOf (l.take k) a) (hoi : w.ownsInts b e .i64 v zs) (hat : D.atKey (.string g.f1.data.toList) .nil = rowDatum .i64 v zs) (hoi' : w1.ownsInts b e .i64 v' (zs ++ [g.f2])) (a : ByteArray) :
    intsOf ((D.put (.string g.f1.data.toList) (rowDatum .i64 v' (zs ++ [g.f2]))).atKey (.string a.data.toList) .nil) = amtsOf (l.take (k + 1)) a := by
  rw [take_snoc_ l k hk ⟨⟨#[]⟩, ⟨#[]⟩, 0⟩, hg, amts_app]
  by_cases h : g.f1 = a
  · subst h
    rw [Maps.atKey_put_same hm hkey, ints_row hoi', amts_hit rfl, ← hd, hat, ints_row hoi]
  · rw [Maps.atKey_put_other (fun e => h (key_inj e).symm), hd, amts_miss h, List.append_nil]
/-- Behind the look-up, at a world that has grown since. -/
structure GL (w : World) (B : Nat) (l : List Leg_) (k : Nat) (g : Leg_) (v : Value) (zs : List Int) (W : World) : Prop where
  own : W.ownsInts (B + 1) 2 .i64 v zs
  len : zs.length ≤ k
  size : B + 1 ≤ W.heap.size
  back : ∃ (D : DataW Unit) (Wl : World), Wl.groupBack Tryd.prog 78 9 (B + 1) 2 .i64 B k D (.string g.f1) (.string g.f1.data.toList) v ∧ Wl.grownBy W v.ownBlock ∧ Wl.ownsInts (B + 1) 2 .i64 v zs ∧
    D.atKey (.string g.f1.data.toList) .nil = rowDatum .i64 v zs ∧ Maps.IsMap D ∧ (∀ a : ByteArray, intsOf (D.atKey (.string a.data.toList) .nil) = amtsOf (l.take k) a) ∧ Below w.heap.size w Wl ∧ Glob w ∧ w.heap.size ≤ B ∧ B < Wl.heap.size
theorem MI.look {w W : World} {B k : Nat} {l : List Leg_} {g : Leg_} (h : MI w B l k W) (hk : k ≤ 1048576) (hkey : keyOf Tryd.prog 9 (.string g.f1) = some (.string g.f1.data.toList)) :
    ∃ v zs, (Instr.lookup 78 (.map (some B)) (.string g.f1) false).run Tryd.prog W = .ok v W ∧ GL w B l k g v zs W := by
  obtain ⟨D, hD, h1, h2⟩ := h.map
  obtain ⟨v, zs, hrun, hat, hoi, hzl, hback⟩ := hD.at law_s Tryd.underlying78 (zero_l _) (by unfold maxLen; omega) hkey
  exact ⟨v, zs, hrun, hoi, hzl, h.lt, D, W, hback, World.grownBy.refl _ _, hoi, hat, h1, h2, h.below, h.g0, h.hB, h.lt⟩
theorem GL.alloc {w W : World} {B k : Nat} {l : List Leg_} {g : Leg_} {v : Value} {zs : List Int} (h : GL w B l k g v zs W) (o : Obj) : GL w B l k g v zs (W.alloc o) := by
  obtain ⟨D, Wl, h1, h2, h3⟩ := h.back
  exact ⟨h.own.alloc o, h.len, Nat.le_trans h.size (by simp), D, Wl, h1, h2.trans (World.grownBy_alloc _ _ _), h3⟩
theorem wf_64 {x : Int} (h : in64 x) : (Lit.int .i64 x).wf = true := WalkArith.wf_i64 h
theorem GL.next {w W w8 : World} {B k : Nat} {l : List Leg_} {g : Leg_} {v v1 : Value} {zs : List Int} (h : GL w B l k g v zs W) (hk : k < l.length) (hg : l.getD k ⟨⟨#[]⟩, ⟨#[]⟩, 0⟩ = g) (hkey : keyOf Tryd.prog 9 (.string g.f1) = some (.string g.f1.data.toList))
    (hown : w8.ownsInts (B + 1) 2 .i64 v1 (zs ++ [g.f2])) (hgrow : W.grownBy w8 v.ownBlock) (hloc : v1.ownBlock = v.ownBlock ∨ v1.ownBlock = some W.heap.size) :
    ∃ w9, (Instr.mapUpdate 78 (.map (some B)) (.string g.f1) v1).run Tryd.prog w8 = .ok () w9 ∧ MI w B l (k + 1) w9 := by
  obtain ⟨D, Wl, h1, h2, h3, h4, h5, h6, h7, h8, h9, h10⟩ := h.back
  have hgr := h2.trans hgrow
  obtain ⟨w9, r0, r1, r2⟩ := h1 w8 v1 (zs ++ [g.f2]) hgr hown (by have := h.len; simp; omega) (hloc.imp id (fun e => ⟨_, e, h2.size⟩))
  refine ⟨w9, r0, h7.groups h3 hgr r2 h7.size (by omega) h9, h8, h9, Nat.lt_of_lt_of_le h10 (Nat.le_trans hgr.size r2.size), _, r1, h5.put _ _, fun a => map_step hk hg h5 (law_s.key hkey) h6 h3 h4 hown a⟩
section
variable {P : Program} {ops : Array Oper} {o : Oper} {a : Act} {Q : Exit → Act → World → Prop} {Kc : Act → World → Prop}
theorem lit_step {W : World} {e n : Nat} {inner : Array Value} (hw : Region.wanted o (yielded ops a.tmps) = true)
    (hrun : (execOp a.eval o).run P W = .ok (.value (.slice (some ⟨W.heap.size, 0, none⟩) n n)) (W.alloc (.cells inner e)))
    (h : Kc (a.put o.dst (.slice (some ⟨W.heap.size, 0, none⟩) n n)) (W.alloc (.cells inner e))) : if Region.wanted o (yielded ops a.tmps) = true then Oper.wp P o a W Kc Q else Kc (a.put o.dst undef) W :=
  event_step hw hrun h
theorem append_int_step {W : World} {base : Nat} {v : Value} {zs : List Int} {x : Int} {ad : Addr} (hw : Region.wanted o (yielded ops a.tmps) = true) (so xo : Operand) {t e : TypeId} (ho : o.op = .call { callee := .builtin .append, args := #[so, xo], argTypes := #[t, t] })
    (ht : P.underlying t = some (.slice e)) (hinfo : (P.info? e).map (fun i => (i.zero, i.size, i.bytes)) = some (some (.int .i64 0), 1, 8)) (hs : a.eval so = v) (hx : a.eval xo = .slice (some ad) 1 1) (hc : ∀ j u, [Value.int .i64 x][j]? = some u → W.cell? (ad.add j) = some u)
    (HO : W.ownsInts base e .i64 v zs) (hxw : (Lit.int .i64 x).wf = true) (hl : zs.length ≤ 1048576) (hbase : base ≤ W.heap.size)
    (h : ∀ v1 w1, w1.ownsInts base e .i64 v1 (zs ++ [x]) → W.grownBy w1 v.ownBlock → (v1.ownBlock = v.ownBlock ∨ v1.ownBlock = some W.heap.size) → Kc (a.put o.dst v1) w1) :
    if Region.wanted o (yielded ops a.tmps) = true then Oper.wp P o a W Kc Q else Kc (a.put o.dst undef) W := by
  obtain ⟨i0, hi, hzz⟩ := Option.map_eq_some_iff.1 hinfo
  simp only [Prod.mk.injEq] at hzz
  obtain ⟨hz0, hz1, hz2⟩ := hzz
  rw [if_pos hw]
  obtain ⟨v1, w1, hr, hown, hg, _, hat⟩ := run_append_own_at (P := P) W base t o.type e i0 (.int .i64 0) 1 8 ht hi hz0 hz1 hz2 rfl (by decide) v zs.length _ HO.1 ad 1 1 [.int .i64 x] rfl hc (by simp [Value.oneCell']) (by unfold maxLen; omega) (by omega) hbase
  unfold Oper.wp execOp
  simp only [ho, resolve, invoke, builtin, Sem.run_bind, Sem.run_pure, Result.andThen_ok, List.map_toArray, List.map_cons, List.map_nil, hs, hx, hr]
  exact h v1 w1 (HO.appended hown hxw) hg hat
theorem look_step {W : World} (hw : Region.wanted o (yielded ops a.tmps) = true) {t : TypeId} {m x : Operand} (ho : o.op = .lookup t m x false) {b : Nat} {key v : Value} (hm : a.eval m = .map (some b)) (hx : a.eval x = key)
    (hrun : (Instr.lookup t (.map (some b)) key false).run P W = .ok v W) (h : Kc (a.put o.dst v) W) : if Region.wanted o (yielded ops a.tmps) = true then Oper.wp P o a W Kc Q else Kc (a.put o.dst undef) W :=
  event_step hw (w1 := W) (by simp [execOp, ho, hm, hx, hrun, Result.andThen]) h
theorem mapup_step {W w2 : World} (hw : Region.wanted o (yielded ops a.tmps) = true) (hN : o.dst = none) {t : TypeId} {m x y : Operand} (ho : o.op = .mapUpdate t m x y) {b : Nat} {key v : Value} (hm : a.eval m = .map (some b)) (hx : a.eval x = key) (hy : a.eval y = v)
    (hrun : (Instr.mapUpdate t (.map (some b)) key v).run P W = .ok () w2) (h : Kc a w2) : if Region.wanted o (yielded ops a.tmps) = true then Oper.wp P o a W Kc Q else Kc (a.put none undef) W :=
  skip_ hw hN (by simp [execOp, ho, hm, hx, hy, hrun]) h
end
theorem blk_not_own {W : World} {gb t base e : Nat} {cs : Array Value} {v : Value} {zs : List Int} (h : W.heap[gb]? = some (.cells cs t (0, 0))) (ho : W.ownsInts base e .i64 v zs) (ht : t ≠ e) : some gb ≠ v.ownBlock := by
  intro e1
  obtain ⟨cells, hc⟩ := own_typed ho.1 gb e1.symm
  rw [h] at hc
  injection hc with hc
  injection hc with _ h2 _
  exact ht h2
theorem leg_cells {W : World} {gb t : Nat} {a b : ByteArray} {c : Int} (h : W.heap[gb]? = some (.cells #[.string a, .string b, .int .i64 c] t (0, 0))) : W.cell? ⟨gb, 0, none⟩ = some (.string a) ∧ W.cell? ⟨gb, 1, none⟩ = some (.string b) ∧ W.cell? ⟨gb, 2, none⟩ = some (.int .i64 c) :=
  ⟨(blk_cell h 0).trans rfl, (blk_cell h 1).trans rfl, (blk_cell h 2).trans rfl⟩
theorem legs_snoc {l : List Leg_} {k : Nat} {g : Leg_} (hk : k < l.length) (hg : l.getD k ⟨⟨#[]⟩, ⟨#[]⟩, 0⟩ = g) (h : ∀ x ∈ l.take k, legOk x = true) (hok : legOk g = true) : ∀ x ∈ l.take (k + 1), legOk x = true := by
  rw [take_snoc_ l k hk ⟨⟨#[]⟩, ⟨#[]⟩, 0⟩, hg]
  intro x hx
  rcases List.mem_append.1 hx with hx | hx
  · exact h x hx
  · rw [List.mem_singleton.1 hx]
    exact hok
def jck9_T : Bool × List (List Nat × List Nat) := (true, [([], []), ([], []), ([1], [1]), ([], []), ([], []), ([4], [4]), ([3, 5], [3, 5]), ([], []), ([7], [7]), ([8], [8]), ([6, 9], [6, 9]), ([0, 2, 10, 10, 0, 1, 2, 3, 4, 5, 6, 7, 8, 9, 10], [0, 2, 10])])
def jck9_B : List Nat := [0, 0, 2, 0, 0, 16, 56, 0, 128, 384, 1016, 2047]
theorem jck9_tab : rtab .any (opsOf Tryd.f18 9) = jck9_T := by kernel_rfl
theorem jck9_bits : waitsOk jck9_T.2 jck9_B = true := by kernel_rfl
theorem legs_get {w : World} {A : Option Addr} {l : List Leg_} (h : Kd.C k47 w A l.length l) (k : Nat) (hk : k < l.length) :
    ∃ ad, A = some ad ∧ w.cell? (ad.add (k * 3)) = some (.string (l.getD k ⟨⟨#[]⟩, ⟨#[]⟩, 0⟩).f0) ∧ w.cell? ⟨(ad.add (k * 3)).block, (ad.add (k * 3)).off + 1, none⟩ = some (.string (l.getD k ⟨⟨#[]⟩, ⟨#[]⟩, 0⟩).f1) ∧ w.cell? ⟨(ad.add (k * 3)).block, (ad.add (k * 3)).off + 2, none⟩ = some (.int .i64 (l.getD k ⟨⟨#[]⟩, ⟨#[]⟩, 0⟩).f2) := by
  obtain ⟨ad, e, h0, h1, h2⟩ := at_T47 h (k : Int) (by omega) (by omega)
  exact ⟨ad, e, h0, h1, h2⟩
theorem ret_chk {a b : Int} (h : a = b) : Ending.returned (.int .i64 a) = .returned (.int .i64 b) := by rw [h]

theorem owns_map {W : World} {B n : Nat} {D : DataW Unit} (h : W.ownsGroups Tryd.prog 9 (B + 1) 2 .i64 B n D) : W.ownsMap Tryd.prog 9 (rowElem W (B + 1) 2 .i64) B n D := by
  obtain ⟨es, clock, hb, F, hs, hD, _⟩ := h
  exact ⟨es, clock, hb, F, hs, hD⟩
abbrev slv (c : Option Addr × Nat × Nat) : Value := .slice c.1 c.2.1 c.2.2
theorem ints_read {W : World} {base e : Nat} {A : Option Addr} {m cap : Nat} {zs : List Int} (h : W.ownsInts base e .i64 (.slice A m cap) zs) : m = zs.length ∧ m ≤ cap ∧ Kd.C (Kd.int .i64) W A zs.length zs :=
  Kd.R_reads' (Kd.R_of_own (enc := Value.int .i64) (h1 := fun _ => rfl) (ok := fun _ => True) h.1 (fun _ _ => trivial))
theorem inv_k (key : Value) (kl : Lit) (h : keyOf Tryd.prog 9 key = some kl) : ∃ x, key = Value.string x := by
  obtain ⟨x, e, _⟩ := WideMaps.string_of_keyOf Tryd.underlying9 h
  exact ⟨x, e⟩
theorem inv_v {W : World} {base : Nat} (v : Value) (y : DataW Unit × List MemPlace) (h : rowElem W base 2 .i64 v = some y) : ∃ c, v = slv c := by
  obtain ⟨zs, ho, _⟩ := rowElem_inv h
  obtain ⟨A, c, e, _⟩ := Kd.R_reads (Kd.R_of_own (enc := Value.int .i64) (h1 := fun _ => rfl) (ok := fun _ => True) ho.1 (fun _ _ => trivial))
  exact ⟨(A, _, c), e⟩
/-- The range under way. -/
structure RI (w wr : World) (B n : Nat) (l : List Leg_) (D : DataW Unit) (left : Lit → Bool) (cnt : Nat) (W : World) : Prop where
  rg : W.ranges Tryd.prog 9 (rowElem wr (B + 1) 2 .i64) B wr.heap.size n D left cnt
  below : Below wr.heap.size wr W
  old : Below w.heap.size w wr
  g0 : Glob w
  done : ∀ a : ByteArray, left (.string a.data.toList) = false → sumI (amtsOf l a) = 0
set_option maxHeartbeats 4000000 in
set_option maxRecDepth 100000 in
set_option linter.unusedSimpArgs false in
theorem journal_Check.calls (a0_0 : Int) (a0_1 : Int) (a0_2 : ByteArray) (A0_3 : Option Addr) (c0_3 : Nat) (l0_3 : List Leg_) (r : Int) (w : World) (hG : Glob w) (hr0_3 : Kd.C k47 w A0_3 l0_3.length l0_3) (_hc0_3 : l0_3.length ≤ c0_3) (h : journal_Check.f a0_0 a0_1 a0_2 l0_3 = some r) :
    Calls Tryd.prog 18 #[.agg #[.int .u64 a0_0, .int .u64 a0_1, .string a0_2, .slice A0_3 l0_3.length c0_3]] w fun e w' => e = .returned (.int .i64 r) ∧ Below w.heap.size w w' := by
  unfold journal_Check.f at h
  split at h
  case isFalse => cases h
  rename_i hs
  have hr := Option.some.inj h
  clear h
  obtain ⟨hs1, hs2⟩ := hs
  have HW : Hid (∀ W, Glob W → Calls Tryd.prog 36 #[.string a0_2] W fun e w' => e = .returned (.bool (isPart isSign 12 a0_2)) ∧ Below W.heap.size W w') := Lib.hid fun W hW => label_Word.calls a0_2 _ W hW (word_some a0_2 (of_decide_eq_true hs1))
  have HR := Lib.hid hr; clear hr
  have HS2 := Lib.hid hs2; clear hs2 hs1
  have HL := Lib.hid hr0_3; clear hr0_3
  have hci := CI.start (cs := #[.int .u64 a0_0, .int .u64 a0_1, .string a0_2, .slice A0_3 l0_3.length c0_3]) hG
  have HG := Lib.hid hG; clear hG
  obtain ⟨bs, hbs⟩ : ∃ b, isPart isSign 12 a0_2 = b := ⟨_, rfl⟩
  rw [hbs] at HW
  have HBS := Lib.hid hbs; clear hbs
  cases bs with
  | false =>
    have HF : Hid (r = 120) := Lib.hid (by rw [← HR.out]; unfold chkOf checkB; rw [HBS.out]; simp)
    clear HBS HR
    go_enter Tryd.func18, Tryd.ntmps18
    go_wp2_with (go_at_call 36; refine (HW.out _ hci.glob).mono ?_; rintro e w1 ⟨rfl, hb⟩; have hci1 := hci.step hb; clear hb)
    go_ret
    exact ⟨ret_chk HF.out.symm, hci1.below⟩
  | true =>
    by_cases h2 : l0_3.length < 2
    · have HF : Hid (r = 120) := Lib.hid (by rw [← HR.out]; unfold chkOf checkB; rw [decide_eq_false (by omega : ¬ 2 ≤ l0_3.length)]; simp)
      clear HBS HR
      have h2a : decide ((l0_3.length : Int) < 2) = true := decide_eq_true (by omega)
      have h2b : decide (l0_3.length < 2) = true := decide_eq_true h2
      go_enter Tryd.func18, Tryd.ntmps18
      go_wp2_with (go_at_call 36; refine (HW.out _ hci.glob).mono ?_; rintro e w1 ⟨rfl, hb⟩; have hci1 := hci.step hb; have c3 := blk_cell hci1.blk 3; simp at c3; clear hb)
      go_ret
      exact ⟨ret_chk HF.out.symm, hci1.below⟩
    · have h2a : decide ((l0_3.length : Int) < 2) = false := decide_eq_false (by omega)
      have h2b : decide (l0_3.length < 2) = false := decide_eq_false h2
      by_cases h3 : 200 < l0_3.length
      · have HF : Hid (r = 120) := Lib.hid (by rw [← HR.out]; unfold chkOf checkB; rw [decide_eq_false (by omega : ¬ l0_3.length ≤ 200)]; simp)
        clear HBS HR
        have h3a : decide ((l0_3.length : Int) > 200) = true := decide_eq_true (by omega)
        have h3b : decide (200 < l0_3.length) = true := decide_eq_true h3
        go_enter Tryd.func18, Tryd.ntmps18
        go_wp2_with (go_at_call 36; refine (HW.out _ hci.glob).mono ?_; rintro e w1 ⟨rfl, hb⟩; have hci1 := hci.step hb; have c3 := blk_cell hci1.blk 3; simp at c3; clear hb)
        go_ret
        exact ⟨ret_chk HF.out.symm, hci1.below⟩
      · have h3a : decide ((l0_3.length : Int) > 200) = false := decide_eq_false (by omega)
        have h3b : decide (200 < l0_3.length) = false := decide_eq_false h3
        have hmm := @run_makeMap Tryd.prog
        go_enter Tryd.func18, Tryd.ntmps18
        go_wp2_with (go_at_call 36; refine (HW.out _ hci.glob).mono ?_; rintro e w1 ⟨rfl, hb⟩; have hci1 := hci.step hb; have c3 := blk_cell hci1.blk 3; simp at c3; have hci2 := hci1.step (below_alloc (Below.refl _ w1) (.map #[] 0)); have c3m := blk_cell hci2.blk 3; simp at c3m; clear hb)
        have HSZ := Lib.hid hci1.below.size
        clear hci hci1 c3 c3m
        have HC2 := Lib.hid hci2; have H200 := Lib.hid h3; have HL2 := Lib.hid h2; clear hci2 h2 h3
        go_loopw [30] (fun i wr => ∃ k : Nat, k ≤ l0_3.length ∧ i = .int .i64 k ∧ Hid (∀ g ∈ l0_3.take k, legOk g = true) ∧ Hid (MI w w1.heap.size l0_3 k wr)) (fun i _ => l0_3.length - (intOf i).toNat)
        case atStart => exact ⟨0, Nat.zero_le _, rfl, Lib.hid (by simp), Lib.hid ⟨HC2.out.below, HG.out, HSZ.out, by simp, _, World.ownsGroups_made _ _ _ _ _, Maps.isMap_empty, fun a => rfl⟩⟩
        case round =>
          clear HC2
          obtain ⟨k, hk, rfl, HLK, HM⟩ := hrel
          by_cases hlt : k < l0_3.length
          · obtain ⟨g, hg⟩ : ∃ g, l0_3.getD k ⟨⟨#[]⟩, ⟨#[]⟩, 0⟩ = g := ⟨_, rfl⟩
            have hgm : g ∈ l0_3 := hg ▸ getD_mem_ l0_3 k hlt _
            obtain ⟨hi0, hi1, hi2⟩ := legIn_get (HS2.out g hgm)
            obtain ⟨ad, had, q0, q1, q2⟩ := legs_get HL.out k hlt
            subst had
            rw [hg] at q0 q1 q2
            replace q0 := (HM.out.below.cell (World.block_lt_of_cell? w _ q0)).trans q0
            replace q1 := (HM.out.below.cell (World.block_lt_of_cell? w _ q1)).trans q1
            replace q2 := (HM.out.below.cell (World.block_lt_of_cell? w _ q2)).trans q2
            have HKEY := Lib.hid (WideMaps.keyOf_string_mk (P := Tryd.prog) (k := 9) Tryd.underlying9 (s := g.f1) (by unfold maxLen; omega))
            have HX64 := Lib.hid (wf_64 hi2)
            have HO : Hid (∀ W, Glob W → Calls Tryd.prog 34 #[.string g.f0] W fun e w' => e = .returned (.bool (isWho g.f0)) ∧ Below W.heap.size W w') := Lib.hid fun W hW => label_Who.calls g.f0 _ W hW (who_some g.f0 hi0)
            have HA : Hid (∀ W, Glob W → Calls Tryd.prog 35 #[.string g.f1] W fun e w' => e = .returned (.bool (isPart isUp 6 g.f1)) ∧ Below W.heap.size W w') := Lib.hid fun W hW => label_Asset.calls g.f1 _ W hW (asset_some g.f1 hi1)
            have HGM := Lib.hid hgm; have HG0 := Lib.hid hg
            clear hgm hi0 hi1 hi2 hg
            obtain ⟨bw, hbw⟩ : ∃ b, isWho g.f0 = b := ⟨_, rfl⟩
            obtain ⟨bu, hbu⟩ : ∃ b, isPart isUp 6 g.f1 = b := ⟨_, rfl⟩
            rw [hbw] at HO
            rw [hbu] at HA
            have HOK0 : Hid (legOk g = (bw && bu && decide (g.f2 ≠ 0))) := Lib.hid (by unfold legOk; rw [hbw, hbu])
            clear hbw hbu
            cases bw with
            | false =>
              have HF : Hid (r = 120) := Lib.hid (by rw [← HR.out, check_no_leg HGM.out (by rw [HOK0.out]; rfl)]; rfl)
              clear HR HOK0
              go_wp2_with (first | ((with_reducible refine gate_dst (N := 5) rfl ?_); refine box_event ?hg (N := 5) ?hd (cs := #[.string ⟨#[]⟩, .string ⟨#[]⟩, .int .i64 0]) (t := 47) ?hr ?_; (case hd => rfl); (case hg => rfl); (case hr => first | (go_simp; done) | (go_simp; rfl)); intro gb hgb w5 hbx hb; have HGE := Lib.hid (show wr.heap.size ≤ gb by omega); have HB5 := Lib.hid hb; have b0 : w5.cell? ⟨gb, 0, none⟩ = some (.string ⟨#[]⟩) := (blk_cell hbx 0).trans rfl; have b1 : w5.cell? ⟨gb, 1, none⟩ = some (.string ⟨#[]⟩) := (blk_cell hbx 1).trans rfl; have b2 : w5.cell? ⟨gb, 2, none⟩ = some (.int .i64 0) := (blk_cell hbx 2).trans rfl; have f0 := blk_frozen hbx 0; have f1 := blk_frozen hbx 1; have f2 := blk_frozen hbx 2; have HBX := Lib.hid hbx; clear hb hbx hgb) | (go_at_call 34; refine (HO.out _ (HM.out.glob.below (below_set (below_set (below_set HB5.out HGE.out) HGE.out) HGE.out))).mono ?_; rintro e w6 ⟨rfl, hb⟩; have HB6 := Lib.hid (below_step (below_set (below_set (below_set HB5.out HGE.out) HGE.out) HGE.out) hb); have hb6 := blk_below (blk_put (blk_put (blk_put (cs' := #[.string g.f0, .string ⟨#[]⟩, .int .i64 0]) HBX.out 0 (.string g.f0) rfl) (cs' := #[.string g.f0, .string g.f1, .int .i64 0]) 1 (.string g.f1) rfl) (cs' := #[.string g.f0, .string g.f1, .int .i64 g.f2]) 2 (.int .i64 g.f2) rfl) hb; have d1 : w6.cell? ⟨gb, 1, none⟩ = some (.string g.f1) := (blk_cell hb6 1).trans rfl; have d2 : w6.cell? ⟨gb, 2, none⟩ = some (.int .i64 g.f2) := (blk_cell hb6 2).trans rfl; have HBK6 := Lib.hid hb6; clear hb hb6 b0 b1 b2 f0 f1 f2 HBX HB5))
              go_ret
              exact ⟨ret_chk HF.out.symm, below_step HM.out.below HB6.out⟩
            | true =>
              cases bu with
              | false =>
                have HF : Hid (r = 120) := Lib.hid (by rw [← HR.out, check_no_leg HGM.out (by rw [HOK0.out]; rfl)]; rfl)
                clear HR HOK0
                go_wp2_with (first | ((with_reducible refine gate_dst (N := 5) rfl ?_); refine box_event ?hg (N := 5) ?hd (cs := #[.string ⟨#[]⟩, .string ⟨#[]⟩, .int .i64 0]) (t := 47) ?hr ?_; (case hd => rfl); (case hg => rfl); (case hr => first | (go_simp; done) | (go_simp; rfl)); intro gb hgb w5 hbx hb; have HGE := Lib.hid (show wr.heap.size ≤ gb by omega); have HB5 := Lib.hid hb; have b0 : w5.cell? ⟨gb, 0, none⟩ = some (.string ⟨#[]⟩) := (blk_cell hbx 0).trans rfl; have b1 : w5.cell? ⟨gb, 1, none⟩ = some (.string ⟨#[]⟩) := (blk_cell hbx 1).trans rfl; have b2 : w5.cell? ⟨gb, 2, none⟩ = some (.int .i64 0) := (blk_cell hbx 2).trans rfl; have f0 := blk_frozen hbx 0; have f1 := blk_frozen hbx 1; have f2 := blk_frozen hbx 2; have HBX := Lib.hid hbx; clear hb hbx hgb) | (go_at_call 34; refine (HO.out _ (HM.out.glob.below (below_set (below_set (below_set HB5.out HGE.out) HGE.out) HGE.out))).mono ?_; rintro e w6 ⟨rfl, hb⟩; have HB6 := Lib.hid (below_step (below_set (below_set (below_set HB5.out HGE.out) HGE.out) HGE.out) hb); have hb6 := blk_below (blk_put (blk_put (blk_put (cs' := #[.string g.f0, .string ⟨#[]⟩, .int .i64 0]) HBX.out 0 (.string g.f0) rfl) (cs' := #[.string g.f0, .string g.f1, .int .i64 0]) 1 (.string g.f1) rfl) (cs' := #[.string g.f0, .string g.f1, .int .i64 g.f2]) 2 (.int .i64 g.f2) rfl) hb; have d1 : w6.cell? ⟨gb, 1, none⟩ = some (.string g.f1) := (blk_cell hb6 1).trans rfl; have d2 : w6.cell? ⟨gb, 2, none⟩ = some (.int .i64 g.f2) := (blk_cell hb6 2).trans rfl; have HBK6 := Lib.hid hb6; clear hb hb6 b0 b1 b2 f0 f1 f2 HBX HB5) | (go_at_call 35; refine (HA.out _ (HM.out.glob.below HB6.out)).mono ?_; rintro e w7 ⟨rfl, hb⟩; have HB7 := Lib.hid (below_step HB6.out hb); have hb7 := blk_below HBK6.out hb; have d1 : w7.cell? ⟨gb, 1, none⟩ = some (.string g.f1) := (blk_cell hb7 1).trans rfl; have d2 : w7.cell? ⟨gb, 2, none⟩ = some (.int .i64 g.f2) := (blk_cell hb7 2).trans rfl; have HBK := Lib.hid hb7; clear hb hb7 HB6 HBK6))
                go_ret
                exact ⟨ret_chk HF.out.symm, below_step HM.out.below HB7.out⟩
              | true =>
                by_cases hz : g.f2 = 0
                · have hz1 : (g.f2 == 0) = true := beq_iff_eq.2 hz
                  have HF : Hid (r = 120) := Lib.hid (by rw [← HR.out, check_no_leg HGM.out (by rw [HOK0.out, hz]; rfl)]; rfl)
                  clear HR HOK0 hz
                  go_wp2_with (first | ((with_reducible refine gate_dst (N := 5) rfl ?_); refine box_event ?hg (N := 5) ?hd (cs := #[.string ⟨#[]⟩, .string ⟨#[]⟩, .int .i64 0]) (t := 47) ?hr ?_; (case hd => rfl); (case hg => rfl); (case hr => first | (go_simp; done) | (go_simp; rfl)); intro gb hgb w5 hbx hb; have HGE := Lib.hid (show wr.heap.size ≤ gb by omega); have HB5 := Lib.hid hb; have b0 : w5.cell? ⟨gb, 0, none⟩ = some (.string ⟨#[]⟩) := (blk_cell hbx 0).trans rfl; have b1 : w5.cell? ⟨gb, 1, none⟩ = some (.string ⟨#[]⟩) := (blk_cell hbx 1).trans rfl; have b2 : w5.cell? ⟨gb, 2, none⟩ = some (.int .i64 0) := (blk_cell hbx 2).trans rfl; have f0 := blk_frozen hbx 0; have f1 := blk_frozen hbx 1; have f2 := blk_frozen hbx 2; have HBX := Lib.hid hbx; clear hb hbx hgb) | (go_at_call 34; refine (HO.out _ (HM.out.glob.below (below_set (below_set (below_set HB5.out HGE.out) HGE.out) HGE.out))).mono ?_; rintro e w6 ⟨rfl, hb⟩; have HB6 := Lib.hid (below_step (below_set (below_set (below_set HB5.out HGE.out) HGE.out) HGE.out) hb); have hb6 := blk_below (blk_put (blk_put (blk_put (cs' := #[.string g.f0, .string ⟨#[]⟩, .int .i64 0]) HBX.out 0 (.string g.f0) rfl) (cs' := #[.string g.f0, .string g.f1, .int .i64 0]) 1 (.string g.f1) rfl) (cs' := #[.string g.f0, .string g.f1, .int .i64 g.f2]) 2 (.int .i64 g.f2) rfl) hb; have d1 : w6.cell? ⟨gb, 1, none⟩ = some (.string g.f1) := (blk_cell hb6 1).trans rfl; have d2 : w6.cell? ⟨gb, 2, none⟩ = some (.int .i64 g.f2) := (blk_cell hb6 2).trans rfl; have HBK6 := Lib.hid hb6; clear hb hb6 b0 b1 b2 f0 f1 f2 HBX HB5) | (go_at_call 35; refine (HA.out _ (HM.out.glob.below HB6.out)).mono ?_; rintro e w7 ⟨rfl, hb⟩; have HB7 := Lib.hid (below_step HB6.out hb); have hb7 := blk_below HBK6.out hb; have d1 : w7.cell? ⟨gb, 1, none⟩ = some (.string g.f1) := (blk_cell hb7 1).trans rfl; have d2 : w7.cell? ⟨gb, 2, none⟩ = some (.int .i64 g.f2) := (blk_cell hb7 2).trans rfl; have HBK := Lib.hid hb7; clear hb hb7 HB6 HBK6))
                  go_ret
                  exact ⟨ret_chk HF.out.symm, below_step HM.out.below HB7.out⟩
                · have hz1 : (g.f2 == 0) = false := beq_eq_false_iff_ne.2 hz
                  have HOK : Hid (legOk g = true) := Lib.hid (by rw [HOK0.out]; simp [hz])
                  clear HOK0 hz
                  have HNK := Lib.hid h2a
                  go_upto_region 9 with (first | ((with_reducible refine gate_dst (N := 5) rfl ?_); refine box_event ?hg (N := 5) ?hd (cs := #[.string ⟨#[]⟩, .string ⟨#[]⟩, .int .i64 0]) (t := 47) ?hr ?_; (case hd => rfl); (case hg => rfl); (case hr => first | (go_simp; done) | (go_simp; rfl)); intro gb hgb w5 hbx hb; have HGE := Lib.hid (show wr.heap.size ≤ gb by omega); have HB5 := Lib.hid hb; have b0 : w5.cell? ⟨gb, 0, none⟩ = some (.string ⟨#[]⟩) := (blk_cell hbx 0).trans rfl; have b1 : w5.cell? ⟨gb, 1, none⟩ = some (.string ⟨#[]⟩) := (blk_cell hbx 1).trans rfl; have b2 : w5.cell? ⟨gb, 2, none⟩ = some (.int .i64 0) := (blk_cell hbx 2).trans rfl; have f0 := blk_frozen hbx 0; have f1 := blk_frozen hbx 1; have f2 := blk_frozen hbx 2; have HBX := Lib.hid hbx; clear hb hbx hgb) | (go_at_call 34; refine (HO.out _ (HM.out.glob.below (below_set (below_set (below_set HB5.out HGE.out) HGE.out) HGE.out))).mono ?_; rintro e w6 ⟨rfl, hb⟩; have HB6 := Lib.hid (below_step (below_set (below_set (below_set HB5.out HGE.out) HGE.out) HGE.out) hb); have hb6 := blk_below (blk_put (blk_put (blk_put (cs' := #[.string g.f0, .string ⟨#[]⟩, .int .i64 0]) HBX.out 0 (.string g.f0) rfl) (cs' := #[.string g.f0, .string g.f1, .int .i64 0]) 1 (.string g.f1) rfl) (cs' := #[.string g.f0, .string g.f1, .int .i64 g.f2]) 2 (.int .i64 g.f2) rfl) hb; have d1 : w6.cell? ⟨gb, 1, none⟩ = some (.string g.f1) := (blk_cell hb6 1).trans rfl; have d2 : w6.cell? ⟨gb, 2, none⟩ = some (.int .i64 g.f2) := (blk_cell hb6 2).trans rfl; have HBK6 := Lib.hid hb6; clear hb hb6 b0 b1 b2 f0 f1 f2 HBX HB5) | (go_at_call 35; refine (HA.out _ (HM.out.glob.below HB6.out)).mono ?_; rintro e w7 ⟨rfl, hb⟩; have HB7 := Lib.hid (below_step HB6.out hb); have hb7 := blk_below HBK6.out hb; have d1 : w7.cell? ⟨gb, 1, none⟩ = some (.string g.f1) := (blk_cell hb7 1).trans rfl; have d2 : w7.cell? ⟨gb, 2, none⟩ = some (.int .i64 g.f2) := (blk_cell hb7 2).trans rfl; have HBK := Lib.hid hb7; clear hb hb7 HB6 HBK6))
                  have HMM := Lib.hid (HM.out.step (HB7.out)); clear HB7
                  have hk2 : k ≤ 1048576 := by have := H200.out; omega
                  have HK2 := Lib.hid hk2; clear hk2
                  refine start_ (n := 12) (S := fun W_ => W_.cell? ⟨gb, 0, none⟩ = some (.string g.f0) ∧ W_.cell? ⟨gb, 1, none⟩ = some (.string g.f1) ∧ W_.cell? ⟨gb, 2, none⟩ = some (.int .i64 g.f2)) (ds := [11]) #[false, false, false, false, false, false, false, false, false, false, false, false] (by kernel_rfl) rfl rfl (leg_cells HBK.out) (fun hHeld => ?_); refine with_tabW jck9_tab jck9_bits (fun HT_ HW_ => ?_)
                  have n0_ := Lib.hid (show MI w w1.heap.size l0_3 k w7.drew from HMM.out.step (below_drew1 (Below.refl _ _))); clear HMM; have HMM := n0_; clear n0_
                  have n0_ := Lib.hid (blk_drew HBK.out); clear HBK; have HBK := n0_; clear n0_
                  (refine pure_ (i := 0) (N := some 49) (v := ?_) (a' := ?_) (fl_ 12 1) rfl rfl (any_of HT_.out (by kernel_rfl)) (fun _ _ _ h => h) (Or.inl ⟨by rfl, ?_⟩) ?_ ?_; rotate_left; (· (intro w'; go_simp; with_reducible rfl)); rotate_left; (· (simp only [Act.put, List.setIfInBounds_toArray, List.set_cons_zero, List.set_cons_succ, i64_w, i32_w]; rfl)))
                  (refine pure_ (i := 1) (N := some 50) (v := ?_) (a' := ?_) (fl_ 12 3) rfl rfl (any_of HT_.out (by kernel_rfl)) (fun _ _ _ h => h) (Or.inl ⟨by rfl, ?_⟩) ?_ ?_; rotate_left; (· (intro w'; go_simp; with_reducible rfl)); rotate_left; (· (simp only [Act.put, List.setIfInBounds_toArray, List.set_cons_zero, List.set_cons_succ, i64_w, i32_w]; rfl)))
                  (refine pure_ (i := 3) (N := some 52) (v := ?_) (a' := ?_) (fl_ 12 11) rfl rfl (any_of HT_.out (by kernel_rfl)) (fun _ _ _ h => h) (Or.inl ⟨by rfl, ?_⟩) ?_ ?_; rotate_left; (· (intro w'; go_simp; with_reducible rfl)); rotate_left; (· (simp only [Act.put, List.setIfInBounds_toArray, List.set_cons_zero, List.set_cons_succ, i64_w, i32_w]; rfl)))
                  (refine pure_ (i := 4) (N := some 53) (v := ?_) (a' := ?_) (fl_ 12 27) rfl rfl (any_of HT_.out (by kernel_rfl)) (fun _ _ _ h => h) (Or.inl ⟨by rfl, ?_⟩) ?_ ?_; rotate_left; (· (intro w'; go_simp; with_reducible rfl)); rotate_left; (· (simp only [Act.put, List.setIfInBounds_toArray, List.set_cons_zero, List.set_cons_succ, i64_w, i32_w]; rfl)))
                  (refine pure_ (i := 7) (N := some 56) (v := ?_) (a' := ?_) (fl_ 12 155) rfl rfl (any_of HT_.out (by kernel_rfl)) (fun _ _ _ h => h) (Or.inl ⟨by rfl, ?_⟩) ?_ ?_; rotate_left; (· (intro w'; go_simp; with_reducible rfl)); rotate_left; (· (simp only [Act.put, List.setIfInBounds_toArray, List.set_cons_zero, List.set_cons_succ, i64_w, i32_w]; rfl)))
                  (refine take_ (i := 2) (N := some 51) (v := ?_) (a' := ?_) (fl_ 12 159) rfl rfl (take_ofW HT_.out HW_.out (by kernel_rfl)) (fun _ _ _ h => h) (Or.inl ⟨by rfl, ?_⟩) hHeld ?_ ?_; rotate_left; (· (rintro w' ⟨s0, s1, s2⟩; go_simp; with_reducible rfl)); rotate_left; (· (simp only [Act.put, List.setIfInBounds_toArray, List.set_cons_zero, List.set_cons_succ, i64_w, i32_w]; rfl)))
                  (refine take_ (i := 5) (N := some 54) (v := ?_) (a' := ?_) (fl_ 12 191) rfl rfl (take_ofW HT_.out HW_.out (by kernel_rfl)) (fun _ _ _ h => h) (Or.inl ⟨by rfl, ?_⟩) hHeld ?_ ?_; rotate_left; (· (rintro w' ⟨s0, s1, s2⟩; go_simp; with_reducible rfl)); rotate_left; (· (simp only [Act.put, List.setIfInBounds_toArray, List.set_cons_zero, List.set_cons_succ, i64_w, i32_w]; rfl)))
                  (refine take_ (i := 8) (N := some 57) (v := ?_) (a' := ?_) (fl_ 12 447) rfl rfl (take_ofW HT_.out HW_.out (by kernel_rfl)) (fun _ _ _ h => h) (Or.inl ⟨by rfl, ?_⟩) hHeld ?_ ?_; rotate_left; (· (rintro w' ⟨s0, s1, s2⟩; go_simp; with_reducible rfl)); rotate_left; (· (simp only [Act.put, List.setIfInBounds_toArray, List.set_cons_zero, List.set_cons_succ, i64_w, i32_w]; rfl)))
                  refine two_ (i := 6) (j := 9) (Ni := some 55) (Nj := some 58) (fl_ 12 511) (fl_ 12 959) rfl rfl rfl rfl (two_of HT_.out (by kernel_rfl)) (by decide) (by decide) (fun K hK => ?_) (fun K hK => ?_)
                  · skip
                    obtain ⟨v, zs, hrun, hgl⟩ := HMM.out.look HK2.out HKEY.out
                    have HGL := Lib.hid hgl; clear hgl
                    refine look_step (by rfl) (by rfl) (by rfl) (by rfl) hrun ?_
                    clear hrun
                    refine hK.out _ _ (leg_cells HBK.out) (fun hHeld => ?_)
                    clear hK K
                    refine norm_ (a' := ?_) ?_ ?_; rotate_left; (· (show Act.put _ (some 55) _ = _; simp only [Act.put, List.setIfInBounds_toArray, List.set_cons_zero, List.set_cons_succ, i64_w, i32_w]; rfl))
                    refine one_ (i := 9) (N := some 58) (fl_ 12 1023) rfl rfl (one_of HT_.out (by kernel_rfl)) (by decide) (fun K hK => ?_)
                    refine lit_step (by rfl) (inner := #[.int .i64 g.f2]) (e := 2) (n := 1) ?hr2 ?_
                    case hr2 => first | (go_simp; done) | (go_simp; rfl)
                    have n0_ := Lib.hid (HMM.out.step (below_alloc (Below.refl _ _) (.cells #[.int .i64 g.f2] 2))); clear HMM; have HMM := n0_; clear n0_
                    have n0_ := Lib.hid (blk_alloc HBK.out (.cells #[.int .i64 g.f2] 2)); clear HBK; have HBK := n0_; clear n0_
                    (try (have n0_ := Lib.hid (HGL.out.alloc (.cells #[.int .i64 g.f2] 2)); clear HGL; have HGL := n0_; clear n0_))
                    refine hK.out _ _ (leg_cells HBK.out) (fun hHeld => ?_)
                    clear hK K
                    refine norm_ (a' := ?_) ?_ ?_; rotate_left; (· (show Act.put _ (some 58) _ = _; simp only [Act.put, List.setIfInBounds_toArray, List.set_cons_zero, List.set_cons_succ, i64_w, i32_w]; rfl))
                    refine one_ (i := 10) (N := some 59) (fl_ 12 2047) rfl rfl (one_of HT_.out (by kernel_rfl)) (by decide) (fun K hK => ?_)
                    refine append_int_step (by rfl) _ _ (by rfl) Tryd.underlying76 info_i (by rfl) (by rfl) (cell_one_new _ _ _) HGL.out.own HX64.out (by have := HGL.out.len; have := HK2.out; omega) HGL.out.size ?_
                    intro v1 w8 hown1 hgrow1 hloc1
                    have n0_ := Lib.hid (blk_grown HBK.out hgrow1 (blk_not_own HBK.out HGL.out.own (by decide))); clear HBK; have HBK := n0_; clear n0_
                    have HUP := Lib.hid (HGL.out.next hlt HG0.out HKEY.out hown1 hgrow1 hloc1); clear hown1 hgrow1 hloc1 HGL HMM
                    refine hK.out _ _ (leg_cells HBK.out) (fun hHeld => ?_)
                    clear hK K
                    refine norm_ (a' := ?_) ?_ ?_; rotate_left; (· (show Act.put _ (some 59) _ = _; simp only [Act.put, List.setIfInBounds_toArray, List.set_cons_zero, List.set_cons_succ, i64_w, i32_w]; rfl))
                    refine last_ (i := 11) (N := none) (fl_ 12 4095) rfl rfl (one_of HT_.out (by kernel_rfl)) (by decide) (fun K hK => ?_)
                    obtain ⟨w9, hrunU, hmn⟩ := HUP.out
                    have HMN := Lib.hid hmn; clear hmn HUP
                    refine mapup_step (by rfl) rfl (by rfl) (by rfl) (by rfl) (by rfl) hrunU ?_
                    clear hrunU
                    refine hK.out _ _ ?_
                    clear hK K
                    refine done_ (done_of HT_.out (by kernel_rfl)) ?_
                    have hk2 := HK2.out
                    go_wp2
                    go_roundw
                    case rel => exact ⟨k + 1, by omega, by go_num, Lib.hid (legs_snoc hlt HG0.out HLK.out HOK.out), HMN⟩
                    case measure => simp [intOf]; omega
                  · skip
                    refine lit_step (by rfl) (inner := #[.int .i64 g.f2]) (e := 2) (n := 1) ?hr5 ?_
                    case hr5 => first | (go_simp; done) | (go_simp; rfl)
                    have n0_ := Lib.hid (HMM.out.step (below_alloc (Below.refl _ _) (.cells #[.int .i64 g.f2] 2))); clear HMM; have HMM := n0_; clear n0_
                    have n0_ := Lib.hid (blk_alloc HBK.out (.cells #[.int .i64 g.f2] 2)); clear HBK; have HBK := n0_; clear n0_
                    (try (have n0_ := Lib.hid (HGL.out.alloc (.cells #[.int .i64 g.f2] 2)); clear HGL; have HGL := n0_; clear n0_))
                    refine hK.out _ _ (leg_cells HBK.out) (fun hHeld => ?_)
                    clear hK K
                    refine norm_ (a' := ?_) ?_ ?_; rotate_left; (· (show Act.put _ (some 58) _ = _; simp only [Act.put, List.setIfInBounds_toArray, List.set_cons_zero, List.set_cons_succ, i64_w, i32_w]; rfl))
                    refine one_ (i := 6) (N := some 55) (fl_ 12 1023) rfl rfl (one_of HT_.out (by kernel_rfl)) (by decide) (fun K hK => ?_)
                    obtain ⟨v, zs, hrun, hgl⟩ := HMM.out.look HK2.out HKEY.out
                    have HGL := Lib.hid hgl; clear hgl
                    refine look_step (by rfl) (by rfl) (by rfl) (by rfl) hrun ?_
                    clear hrun
                    refine hK.out _ _ (leg_cells HBK.out) (fun hHeld => ?_)
                    clear hK K
                    refine norm_ (a' := ?_) ?_ ?_; rotate_left; (· (show Act.put _ (some 55) _ = _; simp only [Act.put, List.setIfInBounds_toArray, List.set_cons_zero, List.set_cons_succ, i64_w, i32_w]; rfl))
                    refine one_ (i := 10) (N := some 59) (fl_ 12 2047) rfl rfl (one_of HT_.out (by kernel_rfl)) (by decide) (fun K hK => ?_)
                    refine append_int_step (by rfl) _ _ (by rfl) Tryd.underlying76 info_i (by rfl) (by rfl) (cell_one_new _ _ _) HGL.out.own HX64.out (by have := HGL.out.len; have := HK2.out; omega) HGL.out.size ?_
                    intro v1 w8 hown1 hgrow1 hloc1
                    have n0_ := Lib.hid (blk_grown HBK.out hgrow1 (blk_not_own HBK.out HGL.out.own (by decide))); clear HBK; have HBK := n0_; clear n0_
                    have HUP := Lib.hid (HGL.out.next hlt HG0.out HKEY.out hown1 hgrow1 hloc1); clear hown1 hgrow1 hloc1 HGL HMM
                    refine hK.out _ _ (leg_cells HBK.out) (fun hHeld => ?_)
                    clear hK K
                    refine norm_ (a' := ?_) ?_ ?_; rotate_left; (· (show Act.put _ (some 59) _ = _; simp only [Act.put, List.setIfInBounds_toArray, List.set_cons_zero, List.set_cons_succ, i64_w, i32_w]; rfl))
                    refine last_ (i := 11) (N := none) (fl_ 12 4095) rfl rfl (one_of HT_.out (by kernel_rfl)) (by decide) (fun K hK => ?_)
                    obtain ⟨w9, hrunU, hmn⟩ := HUP.out
                    have HMN := Lib.hid hmn; clear hmn HUP
                    refine mapup_step (by rfl) rfl (by rfl) (by rfl) (by rfl) (by rfl) hrunU ?_
                    clear hrunU
                    refine hK.out _ _ ?_
                    clear hK K
                    refine done_ (done_of HT_.out (by kernel_rfl)) ?_
                    have hk2 := HK2.out
                    go_wp2
                    go_roundw
                    case rel => exact ⟨k + 1, by omega, by go_num, Lib.hid (legs_snoc hlt HG0.out HLK.out HOK.out), HMN⟩
                    case measure => simp [intOf]; omega
          · obtain rfl : k = l0_3.length := by omega
            obtain ⟨wo, rfl⟩ : ∃ wo : World, wo = wr := ⟨_, rfl⟩
            obtain ⟨D, hD, hm1, hd1⟩ := HM.out.map
            have how := owns_map hD
            have HD1 := Lib.hid hd1; clear hd1 hD hm1
            go_wp2_with (at_range; refine wpList_range_own _ rfl _ 78 rfl 9 76 law_s Tryd.underlying78 _ w1.heap.size _ D rfl how ?_; intro w0 hrg0 hg0 hs0)
            go_frame
            have HRI : Hid (RI w wo w1.heap.size l0_3.length l0_3 D (Maps.has D) (Maps.size D) w0) := Lib.hid ⟨hrg0, pw_below_grown (Below.refl _ _) none (Nat.le_refl _) hg0 (fun k hk => by cases hk), HM.out.below, HG.out, fun a ha => by
              have h0 := HD1.out a
              rw [Maps.atKey_of_not_has ha, List.take_length] at h0
              rw [← h0]
              rfl⟩
            clear hrg0 hg0 hs0 how
            go_loopw [7] (fun _ wx => ∃ (left : Lit → Bool) (cnt : Nat), Hid (RI w wo w1.heap.size l0_3.length l0_3 D left cnt wx)) (fun _ wx => wx.rangeLeft w1.heap.size wo.heap.size)
            case atStart => exact ⟨_, _, HRI⟩
            case round =>
              clear HRI
              obtain ⟨left, cnt, HRI⟩ := hrel
              go_wp2_with (at_next; refine wpList_next_ranges _ rfl _ rfl 9 law_s (rowElem wo (w1.heap.size + 1) 2 .i64) Value.string slv inv_k inv_v w1.heap.size wo.heap.size _ D left cnt rfl HRI.out.rg ?_ ?_)
              · intro hc0 hl0
                have HF : Hid (r = 0) := Lib.hid (by
                  rw [← HR.out, check_yes HBS.out (by have := HL2.out; omega) (by have := H200.out; omega) (by have := HLK.out; rwa [List.take_length] at this) (fun g _ => HRI.out.done g.f1 (hl0 _))]
                  rfl)
                clear hc0 hl0 HR
                go_wp2
                go_ret
                exact ⟨ret_chk HF.out.symm, below_step HRI.out.old HRI.out.below⟩
              · intro x A m cap kl y1 y2 wn cnt1 hkey hlx hR hat hrg1 hlt1 hg1 hs1 hen
                obtain ⟨zs, hown, hy⟩ := rowElem_inv hR
                obtain ⟨rfl, rfl⟩ := Prod.mk.inj hy
                clear hy
                obtain ⟨x', ex, hkl, _⟩ := WideMaps.string_of_keyOf Tryd.underlying9 hkey
                obtain rfl : x = x' := by injection ex
                subst hkl
                obtain ⟨hm, hmc, hC⟩ := ints_read hown
                have hz : zs = amtsOf l0_3 x := by
                  have h1 := HD1.out x
                  rw [List.take_length, hat, ints_row hown] at h1
                  exact h1
                subst hz
                obtain rfl : m = (amtsOf l0_3 x).length := hm
                have hbn : Below wo.heap.size wo wn := pw_below_grown HRI.out.below _ HRI.out.below.size hg1 (fun k hk => by injection hk with hk; omega)
                have hCn := Kd.C_below hC hbn
                have hln := amts_length l0_3 x
                have hgn : Glob wn := HRI.out.g0.below (below_step HRI.out.old hbn)
                have HSUM : Hid (Calls Tryd.prog 38 #[.slice A (amtsOf l0_3 x).length cap] wn fun e w' => e = .returned (.tuple #[.int .i64 (outOf (sumI (amtsOf l0_3 x))).1, .int .i64 (outOf (sumI (amtsOf l0_3 x))).2]) ∧ Below wn.heap.size wn w') :=
                  Lib.hid (coin_Sum.calls A cap (amtsOf l0_3 x) _ _ wn hgn hCn hmc (sum_some (by have := H200.out; omega) (in64_all HS2.out x)))
                have HCNT : Hid (cnt1 < cnt) := Lib.hid hlt1
                have HRG := Lib.hid hrg1; have HBN := Lib.hid hbn
                have HMEM : Hid (sumI (amtsOf l0_3 x) ≠ 0 → ∃ g ∈ l0_3, g.f1 = x) := Lib.hid (fun hne => by
                  cases hq : amtsOf l0_3 x with
                  | nil => rw [hq] at hne; exact absurd rfl hne
                  | cons z t =>
                    obtain ⟨g, h1, h2, _⟩ := amts_mem (l := l0_3) (a := x) (x := z) (by rw [hq]; exact List.mem_cons_self ..)
                    exact ⟨g, h1, h2⟩)
                clear hkey hlx hR hat hown hC hmc hCn hln hgn hrg1 hlt1 hg1 hs1 hbn ex
                obtain ⟨n, hn⟩ : ∃ n, (amtsOf l0_3 x).length = n := ⟨_, rfl⟩
                obtain ⟨s, hs⟩ : ∃ s, sumI (amtsOf l0_3 x) = s := ⟨_, rfl⟩
                rw [hn] at HSUM hen
                rw [hs] at HSUM HMEM
                have HS := Lib.hid hs; clear hs
                simp only [slv, hn]
                clear hn
                by_cases hz : s = 0
                · subst hz
                  rw [out_zero] at HSUM
                  go_wp2_with (go_at_call 38; refine (HSUM.out).mono ?_; rintro e w6 ⟨rfl, hb⟩; have HB6 := Lib.hid hb; clear hb)
                  have HRI2 : Hid (RI w wo w1.heap.size l0_3.length l0_3 D (fun z => left z && !z.sameKey (.string x.data.toList)) cnt1 w6) := Lib.hid ⟨HRG.out.kept (grown_of_below HB6.out none) (by simp) (by simp), below_then HBN.out HBN.out.size HB6.out, HRI.out.old, HRI.out.g0, fun a ha => by
                    by_cases e : x = a
                    · exact e ▸ HS.out
                    · refine HRI.out.done a ?_
                      have : (Lit.string a.data.toList).sameKey (.string x.data.toList) = false := Maps.sameKey_ne (fun h => e (key_inj h).symm)
                      rw [this] at ha
                      simpa using ha⟩
                  go_roundw
                  case rel => exact ⟨_, cnt1, HRI2⟩
                  case measure => rw [HRI2.out.rg.left_eq, HRI.out.rg.left_eq]; exact HCNT.out
                · have HF : Hid (r = 120) := Lib.hid (by
                    obtain ⟨g, h1, h2⟩ := HMEM.out hz
                    rw [← HR.out, check_no_sum h1 (by rw [h2, HS.out]; exact hz)]
                    rfl)
                  clear HR
                  rcases out_ne hz with h1 | h1
                  · obtain ⟨p, hp⟩ : ∃ p, outOf s = p := ⟨_, rfl⟩
                    rw [hp] at HSUM h1
                    obtain ⟨p1, p2⟩ := p
                    have h1a : (p1 == 0) = false := beq_eq_false_iff_ne.2 h1
                    have h1b : (p1 != 0) = true := bne_iff_ne.2 h1
                    clear hp h1 hz HS
                    go_wp2_with (go_at_call 38; refine (HSUM.out).mono ?_; rintro e w6 ⟨rfl, hb⟩; have HB6 := Lib.hid hb; clear hb)
                    go_ret
                    exact ⟨ret_chk HF.out.symm, below_step HRI.out.old (below_then HBN.out HBN.out.size HB6.out)⟩
                  · obtain ⟨p, hp⟩ : ∃ p, outOf s = p := ⟨_, rfl⟩
                    rw [hp] at HSUM h1
                    obtain ⟨p1, p2⟩ := p
                    have h1a : (p2 == 0) = false := beq_eq_false_iff_ne.2 h1
                    have h1b : (p2 != 0) = true := bne_iff_ne.2 h1
                    by_cases h2 : p1 = 0
                    · subst h2
                      clear hp h1 hz HS
                      go_wp2_with (go_at_call 38; refine (HSUM.out).mono ?_; rintro e w6 ⟨rfl, hb⟩; have HB6 := Lib.hid hb; clear hb)
                      go_ret
                      exact ⟨ret_chk HF.out.symm, below_step HRI.out.old (below_then HBN.out HBN.out.size HB6.out)⟩
                    · have h2b : (p1 != 0) = true := bne_iff_ne.2 h2
                      have h2a : (p1 == 0) = false := beq_eq_false_iff_ne.2 h2
                      clear hp h1 h2 hz HS
                      go_wp2_with (go_at_call 38; refine (HSUM.out).mono ?_; rintro e w6 ⟨rfl, hb⟩; have HB6 := Lib.hid hb; clear hb)
                      go_ret
                      exact ⟨ret_chk HF.out.symm, below_step HRI.out.old (below_then HBN.out HBN.out.size HB6.out)⟩
end Go.Proofs.YtnngbnhbmgdkoaaDoor.E
