/- The law JournalSums of the given program: what all who are named got of an asset sums to 0, over any days. -/
import Derived.Test.YtjlifcbddednaaaDoorSums12
import Derived.Test.YtjlifcbddednaaaDoorAwake12
import Derived.Test.YtjlifcbddednaaaDoorOpenJ
import Derived.Test.YtjlifcbddednaaaDoorJSum
import Derived.Test.YtjlifcbddednaaaDoorRefJ
import Derived.Test.YtjlifcbddednaaaDoorGlobAt
import Derived.Test.YtjlifcbddednaaaDoorPx3
import Derived.Test.YtjlifcbddednaaaDoorPx5
import Derived.WalkKit
import Derived.BigQuiet
import Derived.Deep.QuietTactic
import Derived.Lib.Hide
namespace Go.Proofs.YtjlifcbddednaaaDoor.E
open Go.RowKit Go.Proofs.YtjlifcbddednaaaDoor.P Go.Proofs.YtjlifcbddednaaaDoorW.PrintWords Go.Proofs.YtjlifcbddednaaaDoorW.PrintLast Go.Proofs.YtjlifcbddednaaaDoorW.PrintMore
attribute [local go_sem] max2_int min2_int max_two min_two
abbrev kFix (w : World) : Kd Ent_ := Kd.fixed k26 w
theorem fix_read {w W : World} {A : Option Addr} {n : Nat} {l : List Ent_} (h : (kFix w).C W A n l) (hb : Below w.heap.size w W) : Kd.C k26 W A n l :=
  ReadsRow.imp_ h (Below.refl _ _) (fun _ _ hp => (k26).K_below hb hp)
def keptTo (l : List Ent_) (k : Nat) : List Ent_ := (l.take k).filter keepB
/-- The first loop: the entries that are kept, and who is named in them. -/
structure JS (w : World) (good : List Ent_) (who : List ByteArray) (vg vw : Value) (W : World) : Prop where
  good : Kd.R (kFix w) 26 W w.heap.size (fun _ => True) vg good
  who : Kd.R Kd.string 9 W w.heap.size (fun _ => True) vw who
  below : Below w.heap.size w W
  g0 : Glob w
theorem JS.step {w W W' : World} {good : List Ent_} {who : List ByteArray} {vg vw : Value} (h : JS w good who vg vw W) (hb : Below W.heap.size W W') : JS w good who vg vw W' :=
  ⟨Kd.R_below h.good hb, Kd.R_below h.who hb, below_step h.below hb, h.g0⟩
theorem JS.glob {w W : World} {good : List Ent_} {who : List ByteArray} {vg vw : Value} (h : JS w good who vg vw W) : Glob W := h.g0.below h.below
theorem kept_next (l : List Ent_) (k : Nat) (hk : k < l.length) (z : Ent_) : keptTo l (k + 1) = keptTo l k ++ (if keepB (l.getD k z) = true then [l.getD k z] else []) := by
  unfold keptTo
  rw [take_snoc_ l k hk z, List.filter_append]
  congr 1
  generalize l.getD k z = y
  cases h : keepB y <;> simp [h]
theorem few_calls (n d : Int) (rq : ByteArray) (A : Option Addr) (c : Nat) (l : List Leg_) (W : World) (hG : Glob W) (hC : Kd.C k42 W A l.length l) (hc : l.length ≤ c) :
    Calls Tryd.prog 9 #[.agg #[.int .u64 n, .int .u64 d, .string rq, .slice A l.length c]] W fun e w' => e = .returned (.bool (fewB rq l)) ∧ Below W.heap.size W w' := by
  obtain ⟨k, hk⟩ := (few_ev n d rq l).rounds
  exact (cambistlaw12_few.calls k n d rq A c l _ W hG hC hc hk).mono fun e w' h => by first | exact h | exact ⟨h.1, h.2.below⟩
theorem goodLeg_in {g : Leg_} (h : goodLeg g) : g.f0.size ≤ 140737488351232 ∧ g.f1.size ≤ 140737488351232 := ⟨h.1, h.2.1⟩
theorem goodEnt_ints {x : Ent_} (h : goodEnt x) : ints64 x.f3 := fun g hg => by
  have := (h.2.2.2.1 g hg).2.2
  simp [Lit.wf] at this
  exact this
theorem chk_calls (x : Ent_) (A : Option Addr) (c : Nat) (W : World) (hG : Glob W) (hC : Kd.C k42 W A x.f3.length x.f3) (hc : x.f3.length ≤ c) (hg : goodEnt x) :
    Calls Tryd.prog 13 #[.agg #[.int .u64 x.f0, .int .u64 x.f1, .string x.f2, .slice A x.f3.length c]] W fun e w' => e = .returned (.int .i64 (chkOf (checkB x.f2 x.f3))) ∧ Below W.heap.size W w' :=
  journal_Check.calls x.f0 x.f1 x.f2 A c x.f3 _ W hG hC hc (check_some hg.2.2.1 (fun g hg' => goodLeg_in (hg.2.2.2.1 g hg')) (goodEnt_ints hg))
theorem ents_get' {w : World} {A : Option Addr} {l : List Ent_} (h : Kd.C k26 w A l.length l) (k : Nat) (hk : k < l.length) :
    ∃ ad A3 c3, A = some ad ∧ w.cell? (ad.add (k * 4)) = some (.int .u64 (l.getD k ⟨0, 0, ⟨#[]⟩, []⟩).f0) ∧ w.cell? ⟨(ad.add (k * 4)).block, (ad.add (k * 4)).off + 1, none⟩ = some (.int .u64 (l.getD k ⟨0, 0, ⟨#[]⟩, []⟩).f1) ∧ w.cell? ⟨(ad.add (k * 4)).block, (ad.add (k * 4)).off + 2, none⟩ = some (.string (l.getD k ⟨0, 0, ⟨#[]⟩, []⟩).f2) ∧
      w.cell? ⟨(ad.add (k * 4)).block, (ad.add (k * 4)).off + 3, none⟩ = some (.slice A3 (l.getD k ⟨0, 0, ⟨#[]⟩, []⟩).f3.length c3) ∧ (l.getD k ⟨0, 0, ⟨#[]⟩, []⟩).f3.length ≤ c3 ∧ Kd.C k42 w A3 (l.getD k ⟨0, 0, ⟨#[]⟩, []⟩).f3.length (l.getD k ⟨0, 0, ⟨#[]⟩, []⟩).f3 := by
  obtain ⟨ad, A3, c3, e, h0, h1, h2, h3, h4, h5⟩ := at_T26 h (k : Int) (by omega) (by omega)
  exact ⟨ad, A3, c3, e, h0, h1, h2, h3, h4, h5⟩
theorem ent_mk {w : World} {A : Option Addr} {c : Nat} (x : Ent_) (hc : x.f3.length ≤ c) (h : Kd.C k42 w A x.f3.length x.f3) : (k26).K w x [.int .u64 x.f0, .int .u64 x.f1, .string x.f2, .slice A x.f3.length c] := ⟨[.int .u64 x.f0], [.int .u64 x.f1, .string x.f2, .slice A x.f3.length c], rfl, rfl, ⟨[.int .u64 x.f1], [.string x.f2, .slice A x.f3.length c], rfl, rfl, ⟨[.string x.f2], [.slice A x.f3.length c], rfl, rfl, ⟨A, c, rfl, hc, h⟩⟩⟩⟩
theorem JS.add_good {w W W1 : World} {good : List Ent_} {who : List ByteArray} {vg vw v1 : Value} {x : Ent_} (h : JS w good who vg vw W) (ho : Kd.R (kFix w) 26 W1 w.heap.size (fun _ => True) v1 (good ++ [x])) (hb : Below w.heap.size w W1) (hg : W.grownBy W1 vg.ownBlock) : JS w (good ++ [x]) who v1 vw W1 :=
  ⟨ho, Kd.R_over h.who h.good (fun q hq => by rcases List.mem_cons.1 hq with rfl | hq; · decide
                                              · cases hq) hg, hb, h.g0⟩
theorem JS.add_who {w W W1 : World} {good : List Ent_} {who : List ByteArray} {vg vw v1 : Value} {x : ByteArray} (h : JS w good who vg vw W) (ho : Kd.R Kd.string 9 W1 w.heap.size (fun _ => True) v1 (who ++ [x])) (hb : Below w.heap.size w W1) (hg : W.grownBy W1 vw.ownBlock) : JS w good (who ++ [x]) vg v1 W1 :=
  ⟨Kd.R_over h.good h.who (fun q hq => by rcases List.mem_cons.1 hq with rfl | hq; · decide
                                          · cases hq) hg, ho, hb, h.g0⟩
theorem addLegs_len : ∀ (l : List Leg_) (ws : List ByteArray), (addLegs ws l).length ≤ ws.length + l.length
  | [], _ => Nat.le_refl _
  | g :: t, ws => by
    have ih := addLegs_len t (addName ws g.f0)
    have h1 : (addName ws g.f0).length ≤ ws.length + 1 := by
      unfold addName
      split
      · omega
      · simp
    unfold addLegs at *
    rw [List.foldl_cons, List.length_cons]
    omega
theorem who_app (l : List Ent_) (x : Ent_) : whoOf (l ++ [x]) = addLegs (whoOf l) x.f3 := by
  unfold whoOf
  rw [List.foldl_append]
  rfl
theorem addLegs_next (ws : List ByteArray) (l : List Leg_) (j : Nat) (hj : j < l.length) (z : Leg_) : addLegs ws (l.take (j + 1)) = addName (addLegs ws (l.take j)) (l.getD j z).f0 := by
  unfold addLegs
  rw [take_snoc_ l j hj z, List.foldl_append]
  rfl
theorem who_len (l : List Ent_) (h : ∀ e ∈ l, e.f3.length ≤ 50) : (whoOf l).length ≤ 50 * l.length := by
  have : ∀ (m l : List Ent_) , (∀ e ∈ l, e.f3.length ≤ 50) → (whoOf l).length ≤ 50 * l.length → (∀ e ∈ m, e.f3.length ≤ 50) → (whoOf (l ++ m)).length ≤ 50 * (l ++ m).length := by
    intro m
    induction m with
    | nil => intro l _ h _; simpa using h
    | cons e m ih =>
      intro l hl h hm
      have := ih (l ++ [e]) (fun x hx => by rcases List.mem_append.1 hx with hx | hx; · exact hl x hx
                                            · rw [List.mem_singleton.1 hx]; exact hm e (List.mem_cons_self ..))
        (by
          rw [who_app]
          have := addLegs_len e.f3 (whoOf l)
          have := hm e (List.mem_cons_self ..)
          simp only [List.length_append, List.length_cons, List.length_nil]
          omega) (fun x hx => hm x (List.mem_cons_of_mem _ hx))
      simpa using this
  simpa using this l [] (by simp) (by simp [whoOf]) h
theorem kept_len (l : List Ent_) (k : Nat) : (keptTo l k).length ≤ k := by
  unfold keptTo
  exact Nat.le_trans (List.length_filter_le _ _) (by rw [List.length_take]; omega)
theorem kept_facts {l : List Ent_} {k : Nat} {e : Ent_} (h : e ∈ keptTo l k) : e ∈ l ∧ e.f3.length ≤ 50 ∧ fewB e.f2 e.f3 = true ∧ checkB e.f2 e.f3 = true := by
  unfold keptTo at h
  obtain ⟨h1, h2⟩ := List.mem_filter.1 h
  unfold keepB at h2
  simp only [Bool.and_eq_true, decide_eq_true_eq] at h2
  exact ⟨List.mem_of_mem_take h1, h2.1.1, h2.1.2, h2.2⟩
theorem kept_who (l : List Ent_) (k : Nat) (h : k ≤ 10) : (whoOf (keptTo l k)).length ≤ 500 := by
  have h1 := who_len (keptTo l k) (fun e he => (kept_facts he).2.1)
  have h2 := kept_len l k
  omega
def freshTo (ws : List ByteArray) (n : ByteArray) (m : Nat) : Bool := !(ws.take m).any (fun w => decide (w = n))
theorem fresh_next (ws : List ByteArray) (n : ByteArray) (m : Nat) (hm : m < ws.length) : freshTo ws n (m + 1) = (freshTo ws n m && !((ws.getD m ⟨#[]⟩).toList == n.toList)) := by
  unfold freshTo
  rw [take_snoc_ ws m hm ⟨#[]⟩, List.any_append, Bool.not_or]
  congr 1
  generalize ws.getD m ⟨#[]⟩ = y
  simp only [List.any_cons, List.any_nil, Bool.or_false]
  congr 1
  rw [Bool.eq_iff_iff, decide_eq_true_eq, beq_iff_eq, toList_inj]
theorem fresh_all (ws : List ByteArray) (n : ByteArray) : addName ws n = if freshTo ws n ws.length = true then ws ++ [n] else ws := by
  unfold addName freshTo
  rw [List.take_length]
  cases ws.any (fun w => decide (w = n)) <;> rfl
theorem got_mem : ∀ (l : List Ent_) (n asset : ByteArray) (a b : Int) (x : Int), x ∈ gotOf l n asset a b → ∃ e ∈ l, ∃ g ∈ e.f3, g.f2 = x
  | [], _, _, _, _, x, h => by cases h
  | e :: l, n, asset, a, b, x, h => by
    unfold gotOf at h
    rcases List.mem_append.1 h with h | h
    · split at h
      · unfold gotLegs at h
        obtain ⟨g, hg, rfl⟩ := List.mem_map.1 h
        exact ⟨e, List.mem_cons_self .., g, (List.mem_filter.1 hg).1, rfl⟩
      · cases h
    · obtain ⟨e2, h1, h2⟩ := got_mem l n asset a b x h
      exact ⟨e2, List.mem_cons_of_mem _ h1, h2⟩
theorem got_len : ∀ (l : List Ent_) (n asset : ByteArray) (a b : Int), (∀ e ∈ l, e.f3.length ≤ 50) → (gotOf l n asset a b).length ≤ 50 * l.length
  | [], _, _, _, _, _ => Nat.le_refl _
  | e :: l, n, asset, a, b, h => by
    have ih := got_len l n asset a b (fun x hx => h x (List.mem_cons_of_mem _ hx))
    have h1 := h e (List.mem_cons_self ..)
    have h2 : (if a ≤ e.f1 ∧ e.f1 < b then gotLegs e.f3 n asset else []).length ≤ e.f3.length := by
      split
      · unfold gotLegs
        rw [List.length_map]
        exact List.length_filter_le _ _
      · simp
    unfold gotOf
    rw [List.length_append, List.length_cons]
    omega
theorem jsum_some (l : List Ent_) (n asset : ByteArray) (a b : Int) (hl : l.length ≤ 10) (h50 : ∀ e ∈ l, e.f3.length ≤ 50) (h64 : ∀ e ∈ l, ints64 e.f3) : journal_Sum.f l n asset a b = some (outOf (sumI (gotOf l n asset a b))) := by
  unfold journal_Sum.f
  rw [if_pos ⟨by omega, fun e he => by have := h50 e he; omega⟩]
  have h1 := got_len l n asset a b h50
  refine sum_some (by omega) (fun x hx => ?_)
  obtain ⟨e, he, g, hg, rfl⟩ := got_mem l n asset a b x hx
  exact h64 e he g hg
/-- The last loop: what each who is named got. -/
structure JT (w : World) (good : List Ent_) (who : List ByteArray) (vg vw : Value) (zs : List Int) (v : Value) (W : World) : Prop where
  js : JS w good who vg vw W
  row : Kd.R (Kd.int .i64) 2 W w.heap.size (fun _ => True) v zs
theorem JT.step {w W W' : World} {good : List Ent_} {who : List ByteArray} {vg vw v : Value} {zs : List Int} (h : JT w good who vg vw zs v W) (hb : Below W.heap.size W W') : JT w good who vg vw zs v W' := ⟨h.js.step hb, Kd.R_below h.row hb⟩
theorem JT.add {w W W1 : World} {good : List Ent_} {who : List ByteArray} {vg vw v v1 : Value} {zs : List Int} {x : Int} (h : JT w good who vg vw zs v W) (ho : Kd.R (Kd.int .i64) 2 W1 w.heap.size (fun _ => True) v1 (zs ++ [x])) (hb : Below w.heap.size w W1) (hg : W.grownBy W1 v.ownBlock) : JT w good who vg vw (zs ++ [x]) v1 W1 :=
  ⟨⟨Kd.R_over h.js.good h.row (fun q hq => by rcases List.mem_cons.1 hq with rfl | hq; · decide
                                              · cases hq) hg, Kd.R_over h.js.who h.row (fun q hq => by rcases List.mem_cons.1 hq with rfl | hq; · decide
                                                                                                       · cases hq) hg, hb, h.js.g0⟩, ho⟩
theorem JT.sum_calls {w W : World} {good : List Ent_} {who : List ByteArray} {vw v : Value} {Ag : Option Addr} {cg : Nat} {zs : List Int} (h : JT w good who (.slice Ag good.length cg) vw zs v W) (n asset : ByteArray) (a b r1 r2 : Int) (hs : journal_Sum.f good n asset a b = some (r1, r2)) :
    Calls Tryd.prog 17 #[.slice Ag good.length cg, .string n, .string asset, .int .u64 a, .int .u64 b] W fun e w' => e = .returned (.tuple #[.int .i64 r1, .int .i64 r2]) ∧ Below W.heap.size W w' := by
  have hr := Kd.R_reads' h.js.good
  exact journal_Sum.calls Ag cg good n asset a b r1 r2 W h.js.glob (fix_read hr.2.2 h.js.below) hr.2.1 hs
theorem info_i64 : (Tryd.prog.info? 2).map (fun i => (i.zero, i.size, i.bytes)) = some (some (.int .i64 0), 1, 8) := by kernel_rfl
/-- The sums of the first m names. -/
def sumsTo (good : List Ent_) (who : List ByteArray) (asset : ByteArray) (a b : Int) (m : Nat) : List Int := (who.take m).map fun n => sumI (gotOf good n asset a b)
theorem sums_next (good : List Ent_) (who : List ByteArray) (asset : ByteArray) (a b : Int) (m : Nat) (hm : m < who.length) : sumsTo good who asset a b (m + 1) = sumsTo good who asset a b m ++ [sumI (gotOf good (who.getD m ⟨#[]⟩) asset a b)] := by
  unfold sumsTo
  rw [take_snoc_ who m hm ⟨#[]⟩, List.map_append]
  rfl
theorem sums_len (good : List Ent_) (who : List ByteArray) (asset : ByteArray) (a b : Int) (m : Nat) : (sumsTo good who asset a b m).length ≤ m := by
  unfold sumsTo
  rw [List.length_map, List.length_take]
  omega
def in64s (l : List Int) : Prop := ∀ z ∈ l, in64 z
theorem in64s_add {l : List Int} {z : Int} (h : in64s l) (hz : in64 z) : in64s (l ++ [z]) := fun x hx => by
  rcases List.mem_append.1 hx with hx | hx
  · exact h x hx
  · rw [List.mem_singleton.1 hx]
    exact hz
structure StopS_ (p : Prop) : Prop where
  out : p
theorem info_s : (Tryd.prog.info? 9).map (fun i => (i.zero, i.size, i.bytes)) = some (some (.string ⟨#[]⟩), 1, 16) := by kernel_rfl
set_option maxHeartbeats 16000000 in
set_option maxRecDepth 100000 in
set_option linter.unusedSimpArgs false in
set_option linter.unusedVariables false in
theorem journalSums_true (w : World) (hG : Glob w) (A0 : Option Addr) (c0 : Nat) (l0 : List Ent_) (hg0 : ∀ a ∈ l0, goodEnt a) (hl0 : l0.length * Tryd.prog.bytesOf 26 ≤ lim) (hr0 : Kd.C k26 w A0 l0.length l0) (hc0 : l0.length ≤ c0) (a1 : ByteArray) (g1 : a1.size ≤ lim)
    (a2 : Int) (g2 : (Lit.int .u32 a2).wf = true) (a3 : Int) (g3 : (Lit.int .u32 a3).wf = true) (a4 : Int) (g4 : (Lit.int .u32 a4).wf = true) :
    Calls Tryd.prog 7 #[.slice A0 l0.length c0, .string a1, .int .u32 a2, .int .u32 a3, .int .u32 a4] w fun e w' => e = .returned (.bool true) ∧ Below w.heap.size w w' := by
  have HA : Hid (∀ W, Glob W → Calls Tryd.prog 8 #[] W fun e w' => e = .returned (.bool true) ∧ Below W.heap.size W w') := Lib.hid fun W hW => cambistlaw12_awake.calls true W hW rfl
  have HR := Lib.hid hr0; have HG0 := Lib.hid hg0
  have hmx : l0.length ≤ 9223372036854775807 := hr0.2.1
  have HMX := Lib.hid hmx
  have HG := Lib.hid hG
  clear hr0 hg0 hl0 hc0 g1 hmx hG
  have H2 := Lib.hid g2; have H3 := Lib.hid g3; have H4 := Lib.hid g4
  clear g2 g3 g4
  obtain ⟨x2, hx2⟩ : ∃ x, IntKind.u64.wrap a2 = x := ⟨_, rfl⟩
  obtain ⟨x3, hx3⟩ : ∃ x, IntKind.u64.wrap a3 = x := ⟨_, rfl⟩
  obtain ⟨x4, hx4⟩ : ∃ x, IntKind.u64.wrap a4 = x := ⟨_, rfl⟩
  obtain ⟨lo, hlo⟩ : ∃ x, (if x4 < x2 then x4 else x2) = x := ⟨_, rfl⟩
  obtain ⟨hi, hhi⟩ : ∃ x, (if x2 < x4 then x4 else x2) = x := ⟨_, rfl⟩
  obtain ⟨mx, hmx⟩ : ∃ x, (if x3 < lo then lo else x3) = x := ⟨_, rfl⟩
  obtain ⟨md, hmd⟩ : ∃ x, (if hi < mx then hi else mx) = x := ⟨_, rfl⟩
  have HORD : Hid (lo ≤ md ∧ md ≤ hi) := Lib.hid (by
    have h1 : lo ≤ hi := by subst hlo hhi; split <;> split <;> omega
    have h2 : lo ≤ mx := by subst hmx; split <;> omega
    subst hmd
    split <;> omega)
  go_enter Tryd.func7, Tryd.ntmps7
  go_wp2_with (go_at_call 8; refine (HA.out _ HG.out).mono ?_; rintro e w1 ⟨rfl, hb⟩; have HB1 := Lib.hid hb; clear hb)
  have HS : Hid (JS w (keptTo l0 0) (whoOf (keptTo l0 0)) (.slice none 0 0) (.slice none 0 0) w1) := Lib.hid ⟨Kd.R_nil _ _ _ _ _, Kd.R_nil _ _ _ _ _, HB1.out, HG.out⟩
  go_loopw [12, 13, 14] (fun vg vw i wr => ∃ k : Nat, k ≤ l0.length ∧ k ≤ 10 ∧ i = .int .i64 k ∧ Hid (JS w (keptTo l0 k) (whoOf (keptTo l0 k)) vg vw wr)) (fun _ _ i _ => 10 - (intOf i).toNat)
  case atStart => exact ⟨0, Nat.zero_le _, by decide, rfl, HS⟩
  case round =>
    clear HS HB1
    obtain ⟨k, hk, hk10, rfl, HS⟩ := hrel
    obtain ⟨wo, rfl⟩ : ∃ wo : World, wo = wr := ⟨_, rfl⟩
    by_cases hlt : k < l0.length
    · have hn1 : decide ((k : Int) < (l0.length : Int)) = true := decide_eq_true (by omega)
      have hn2 : decide (k < l0.length) = true := decide_eq_true hlt
      by_cases h10 : k < 10
      · have hn3 : decide ((k : Int) < 10) = true := decide_eq_true (by omega)
        have hn4 : decide (k < 10) = true := decide_eq_true h10
        obtain ⟨x, hx⟩ : ∃ x, l0.getD k ⟨0, 0, ⟨#[]⟩, []⟩ = x := ⟨_, rfl⟩
        obtain ⟨ad, A3, c3, had, q0, q1, q2, q3, hc3, hlegs⟩ := ents_get' HR.out k hlt
        subst had
        have hgx : goodEnt x := hx ▸ HG0.out _ (getD_mem_ l0 k hlt _)
        rw [hx] at q0 q1 q2 q3 hc3 hlegs
        have HNX := Lib.hid (kept_next l0 k hlt ⟨0, 0, ⟨#[]⟩, []⟩)
        rw [hx] at HNX
        have q0w := Lib.hid q0; have q1w := Lib.hid q1; have q2w := Lib.hid q2; have q3w := Lib.hid q3
        replace q0 := (HS.out.below.cell (World.block_lt_of_cell? w _ q0)).trans q0
        replace q1 := (HS.out.below.cell (World.block_lt_of_cell? w _ q1)).trans q1
        replace q2 := (HS.out.below.cell (World.block_lt_of_cell? w _ q2)).trans q2
        replace q3 := (HS.out.below.cell (World.block_lt_of_cell? w _ q3)).trans q3
        have HLG := Lib.hid hlegs; have HC3 := Lib.hid hc3; have HGX := Lib.hid hgx
        clear hlegs hc3 hgx hx
        have HFW : Hid (∀ W, Below w.heap.size w W → Calls Tryd.prog 9 #[.agg #[.int .u64 x.f0, .int .u64 x.f1, .string x.f2, .slice A3 x.f3.length c3]] W fun e w' => e = .returned (.bool (fewB x.f2 x.f3)) ∧ Below W.heap.size W w') := Lib.hid (fun W hb => few_calls x.f0 x.f1 x.f2 A3 c3 x.f3 W (HG.out.below hb) (Kd.C_below HLG.out hb) HC3.out)
        have HCK : Hid (∀ W, Below w.heap.size w W → Calls Tryd.prog 13 #[.agg #[.int .u64 x.f0, .int .u64 x.f1, .string x.f2, .slice A3 x.f3.length c3]] W fun e w' => e = .returned (.int .i64 (chkOf (checkB x.f2 x.f3))) ∧ Below W.heap.size W w') := Lib.hid (fun W hb => chk_calls x A3 c3 W (HG.out.below hb) (Kd.C_below HLG.out hb) HC3.out HGX.out)
        by_cases h50 : 50 < x.f3.length
        · have e1 : decide ((x.f3.length : Int) > 50) = true := decide_eq_true (by omega)
          have e2 : decide (50 < x.f3.length) = true := decide_eq_true h50
          have HNX2 : Hid (keptTo l0 (k + 1) = keptTo l0 k) := Lib.hid (by
            rw [HNX.out, if_neg (by unfold keepB; rw [decide_eq_false (by omega : ¬ x.f3.length ≤ 50)]; simp), List.append_nil])
          clear h50 HNX
          go_wp2
          go_roundw
          case rel => exact ⟨k + 1, by omega, by omega, by go_num, Lib.hid (by rw [HNX2.out]; exact HS.out)⟩
          case measure => simp [intOf]; omega
        · have e1 : decide ((x.f3.length : Int) > 50) = false := decide_eq_false (by omega)
          have e2 : decide (50 < x.f3.length) = false := decide_eq_false h50
          obtain ⟨fb, hfb⟩ : ∃ b, fewB x.f2 x.f3 = b := ⟨_, rfl⟩
          rw [hfb] at HFW
          cases fb with
          | false =>
            have HNX2 : Hid (keptTo l0 (k + 1) = keptTo l0 k) := Lib.hid (by
              rw [HNX.out, if_neg (by unfold keepB; rw [hfb]; simp), List.append_nil])
            clear h50 HNX hfb
            go_wp2_with (go_at_call 9; refine (HFW.out _ HS.out.below).mono ?_; rintro e w2 ⟨rfl, hb⟩; have HB2 := Lib.hid hb; clear hb)
            go_roundw
            case rel => exact ⟨k + 1, by omega, by omega, by go_num, Lib.hid (by rw [HNX2.out]; exact HS.out.step HB2.out)⟩
            case measure => simp [intOf]; omega
          | true =>
            obtain ⟨cb, hcb⟩ : ∃ b, checkB x.f2 x.f3 = b := ⟨_, rfl⟩
            rw [hcb] at HCK
            cases cb with
            | false =>
              have HNX2 : Hid (keptTo l0 (k + 1) = keptTo l0 k) := Lib.hid (by
                rw [HNX.out, if_neg (by unfold keepB; rw [hcb]; simp), List.append_nil])
              have HCK2 : Hid (∀ W, Below w.heap.size w W → Calls Tryd.prog 13 #[.agg #[.int .u64 x.f0, .int .u64 x.f1, .string x.f2, .slice A3 x.f3.length c3]] W fun e w' => e = .returned (.int .i64 120) ∧ Below W.heap.size W w') := HCK
              clear h50 HNX hfb hcb HCK
              go_wp2_with (first | (go_at_call 9; refine (HFW.out _ HS.out.below).mono ?_; rintro e w2 ⟨rfl, hb⟩; have HB2 := Lib.hid hb; have q0b := (hb.cell (World.block_lt_of_cell? wo _ q0)).trans q0; have q1b := (hb.cell (World.block_lt_of_cell? wo _ q1)).trans q1; have q2b := (hb.cell (World.block_lt_of_cell? wo _ q2)).trans q2; have q3b := (hb.cell (World.block_lt_of_cell? wo _ q3)).trans q3; clear hb q0 q1 q2 q3) | (go_at_call 13; refine (HCK2.out _ (below_step HS.out.below HB2.out)).mono ?_; rintro e w3 ⟨rfl, hb⟩; have HB3 := Lib.hid hb; clear hb))
              go_roundw
              case rel => exact ⟨k + 1, by omega, by omega, by go_num, Lib.hid (by rw [HNX2.out]; exact (HS.out.step HB2.out).step HB3.out)⟩
              case measure => simp [intOf]; omega
            | true =>
              have HNX2 : Hid (keptTo l0 (k + 1) = keptTo l0 k ++ [x]) := Lib.hid (by
                rw [HNX.out, if_pos (by unfold keepB; rw [hcb, hfb, decide_eq_true (by omega : x.f3.length ≤ 50)]; rfl)])
              have HCK2 : Hid (∀ W, Below w.heap.size w W → Calls Tryd.prog 13 #[.agg #[.int .u64 x.f0, .int .u64 x.f1, .string x.f2, .slice A3 x.f3.length c3]] W fun e w' => e = .returned (.int .i64 0) ∧ Below W.heap.size W w') := HCK
              clear HNX hfb hcb HCK
              have HKL := Lib.hid (kept_len l0 k)
              go_wp2_with (first | (go_at_call 9; (with_reducible refine (HFW.out _ HS.out.below).mono ?_); rintro e w2 ⟨rfl, hb⟩; have HB2 := Lib.hid hb; have q0b := (hb.cell (World.block_lt_of_cell? wo _ q0)).trans q0; have q1b := (hb.cell (World.block_lt_of_cell? wo _ q1)).trans q1; have q2b := (hb.cell (World.block_lt_of_cell? wo _ q2)).trans q2; have q3b := (hb.cell (World.block_lt_of_cell? wo _ q3)).trans q3; clear hb q0 q1 q2 q3) | (go_at_call 13; (with_reducible refine (HCK2.out _ (below_step HS.out.below HB2.out)).mono ?_); rintro e w3 ⟨rfl, hb⟩; have HB3 := Lib.hid hb; have q0c := (hb.cell (World.block_lt_of_cell? w2 _ q0b)).trans q0b; have q1c := (hb.cell (World.block_lt_of_cell? w2 _ q1b)).trans q1b; have q2c := (hb.cell (World.block_lt_of_cell? w2 _ q2b)).trans q2b; have q3c := (hb.cell (World.block_lt_of_cell? w2 _ q3b)).trans q3b; clear hb q0b q1b q2b q3b) | (at_builtin; refine StopS_.out (p := _) ?_))
              refine ⟨?_⟩
              have hs3 := (HS.out.step HB2.out).step HB3.out
              refine Kd.R_append (kFix w) (w0 := w) (W := w3) w.heap.size rfl _ _ 34 26 _ 56 rfl Tryd.underlying34 info_e rfl (Nat.zero_lt_succ 3) (by decide) u12 (keptTo l0 k) x [.int .u64 x.f0, .int .u64 x.f1, .string x.f2, .slice A3 x.f3.length c3] (fun _ => True) (fun _ => False) rfl rfl (ent_mk x HC3.out HLG.out) (fun _ h => h.elim) (fun _ _ => trivial) hs3.good hs3.below hs3.below.size (by have := HKL.out; omega) ?_
              intro v1 w9 ho1 hb1 hg1 hat1
              have HJ1 := Lib.hid (hs3.add_good ho1 hb1 hg1)
              clear ho1 hb1 hg1 hat1 hs3 HS HB2 HB3 q0c q1c q2c q3c HFW HCK2
              go_wp2
              have HWL := Lib.hid (kept_who l0 k hk10)
              obtain ⟨gd, hgd⟩ : ∃ gd, keptTo l0 k ++ [x] = gd := ⟨_, rfl⟩
              obtain ⟨ws0, hws0⟩ : ∃ ws0, whoOf (keptTo l0 k) = ws0 := ⟨_, rfl⟩
              have HWN : Hid (whoOf (keptTo l0 (k + 1)) = addLegs ws0 x.f3) := Lib.hid (by rw [HNX2.out, who_app, hws0])
              have HGN : Hid (keptTo l0 (k + 1) = gd) := Lib.hid (by rw [HNX2.out, hgd])
              rw [hgd, hws0] at HJ1
              rw [hws0] at HWL
              have H50 : Hid (x.f3.length ≤ 50) := Lib.hid (by omega)
              have HXL : Hid (∀ W, Below w.heap.size w W → ∃ W0 : World, W = W0) := Lib.hid (fun W _ => ⟨W, rfl⟩)
              clear hgd hws0 HNX2 h50 HKL HXL
              go_loopw [13, 15] (fun v i wr => ∃ j : Nat, j ≤ x.f3.length ∧ i = .int .i64 j ∧ Hid (JS w gd (addLegs ws0 (x.f3.take j)) v1 v wr)) (fun _ i _ => x.f3.length - (intOf i).toNat)
              case atStart => exact ⟨0, Nat.zero_le _, rfl, HJ1⟩
              case round =>
                clear HJ1
                obtain ⟨j, hj, rfl, HJ⟩ := hrel
                obtain ⟨wi, rfl⟩ : ∃ wi : World, wi = wr := ⟨_, rfl⟩
                have q0i := (HJ.out.below.cell (World.block_lt_of_cell? w _ q0w.out)).trans q0w.out
                have q1i := (HJ.out.below.cell (World.block_lt_of_cell? w _ q1w.out)).trans q1w.out
                have q2i := (HJ.out.below.cell (World.block_lt_of_cell? w _ q2w.out)).trans q2w.out
                have q3i := (HJ.out.below.cell (World.block_lt_of_cell? w _ q3w.out)).trans q3w.out
                have h50b : x.f3.length ≤ 50 := H50.out
                by_cases hjl : j < x.f3.length
                · have m1 : decide ((j : Int) < (x.f3.length : Int)) = true := decide_eq_true (by omega)
                  have m2 : decide (j < x.f3.length) = true := decide_eq_true hjl
                  obtain ⟨y, hy⟩ : ∃ y, x.f3.getD j ⟨⟨#[]⟩, ⟨#[]⟩, 0⟩ = y := ⟨_, rfl⟩
                  obtain ⟨ae, hae, p0, p1, p2⟩ := legs_get HLG.out j hjl
                  subst hae
                  rw [hy] at p0 p1 p2
                  have p0w := Lib.hid p0
                  clear p0 p1 p2
                  have HAN := Lib.hid (addLegs_next ws0 x.f3 j hjl ⟨⟨#[]⟩, ⟨#[]⟩, 0⟩)
                  rw [hy] at HAN
                  have HLW : Hid ((addLegs ws0 (x.f3.take j)).length ≤ 550) := Lib.hid (by
                    have h1 := addLegs_len (x.f3.take j) ws0
                    have h2 := HWL.out
                    have h3 := H50.out
                    rw [List.length_take] at h1
                    omega)
                  obtain ⟨ws, hws⟩ : ∃ ws, addLegs ws0 (x.f3.take j) = ws := ⟨_, rfl⟩
                  rw [hws] at HAN HJ HLW
                  clear hy hws
                  obtain ⟨Aw, cw, hvw, hcw, _⟩ := Kd.R_reads HJ.out.who
                  subst hvw
                  go_wp2
                  go_loopw [16, 17] (fun f i wr => ∃ m : Nat, m ≤ ws.length ∧ i = .int .i64 m ∧ f = .bool (freshTo ws y.f0 m) ∧ Hid (JS w gd ws v1 (.slice Aw ws.length cw) wr)) (fun _ i _ => ws.length - (intOf i).toNat)
                  case atStart => exact ⟨0, Nat.zero_le _, rfl, rfl, HJ⟩
                  case round =>
                    clear HJ q0i q1i q2i q3i
                    obtain ⟨m, hm, rfl, rfl, HJ⟩ := hrel
                    obtain ⟨wm, rfl⟩ : ∃ wm : World, wm = wr := ⟨_, rfl⟩
                    have hmw : ws.length ≤ 550 := HLW.out
                    have q0i := (HJ.out.below.cell (World.block_lt_of_cell? w _ q0w.out)).trans q0w.out
                    have q1i := (HJ.out.below.cell (World.block_lt_of_cell? w _ q1w.out)).trans q1w.out
                    have q2i := (HJ.out.below.cell (World.block_lt_of_cell? w _ q2w.out)).trans q2w.out
                    have q3i := (HJ.out.below.cell (World.block_lt_of_cell? w _ q3w.out)).trans q3w.out
                    have p0i := (HJ.out.below.cell (World.block_lt_of_cell? w _ p0w.out)).trans p0w.out
                    by_cases hml : m < ws.length
                    · have m3 : decide ((m : Int) < (ws.length : Int)) = true := decide_eq_true (by omega)
                      have m4 : decide (m < ws.length) = true := decide_eq_true hml
                      have HFN := Lib.hid (fresh_next ws y.f0 m hml)
                      obtain ⟨aw, haw, r0⟩ := Kd.at_string ((Kd.R_reads' HJ.out.who).2.2) (m : Int) (by omega) (by omega)
                      subst haw
                      replace r0 : wm.cell? (aw.add m) = some (.string (ws.getD m ⟨#[]⟩)) := r0
                      obtain ⟨wn, hwn⟩ : ∃ wn, ws.getD m ⟨#[]⟩ = wn := ⟨_, rfl⟩
                      rw [hwn] at HFN r0
                      obtain ⟨b, hb⟩ : ∃ b, freshTo ws y.f0 m = b := ⟨_, rfl⟩
                      rw [hb] at HFN ⊢
                      clear hwn hb
                      cases b with
                      | false =>
                        go_upto_region 16 with (fail)
                        go_quiet (fail)
                        go_wp2
                        go_roundw
                        case rel => exact ⟨m + 1, by omega, by go_num, by rw [HFN.out]; rfl, Lib.hid (HJ.out.step (pw_below_drewN (Below.refl _ _) _))⟩
                        case measure => simp [intOf]; omega
                      | true =>
                        obtain ⟨sw, hsw⟩ : ∃ sw, (wn.toList == y.f0.toList) = sw := ⟨_, rfl⟩
                        rw [hsw] at HFN
                        cases sw with
                        | false =>
                          go_upto_region 16 with (fail)
                          go_quiet (fail)
                          go_wp2
                          go_roundw
                          case rel => exact ⟨m + 1, by omega, by go_num, by rw [HFN.out]; rfl, Lib.hid (HJ.out.step (pw_below_drewN (Below.refl _ _) _))⟩
                          case measure => simp [intOf]; omega
                        | true =>
                          go_upto_region 16 with (fail)
                          go_quiet (fail)
                          go_wp2
                          go_roundw
                          case rel => exact ⟨m + 1, by omega, by go_num, by rw [HFN.out]; rfl, Lib.hid (HJ.out.step (pw_below_drewN (Below.refl _ _) _))⟩
                          case measure => simp [intOf]; omega
                    · have m3 : decide ((m : Int) < (ws.length : Int)) = false := decide_eq_false (by omega)
                      have m4 : decide (m < ws.length) = false := decide_eq_false hml
                      obtain rfl : m = ws.length := by omega
                      have HFA := Lib.hid (fresh_all ws y.f0)
                      obtain ⟨b, hb⟩ : ∃ b, freshTo ws y.f0 ws.length = b := ⟨_, rfl⟩
                      rw [hb] at HFA ⊢
                      clear hb
                      cases b with
                      | false =>
                        have HAM : Hid (addLegs ws0 (x.f3.take (j + 1)) = ws) := Lib.hid (by rw [HAN.out, HFA.out, if_neg (by decide)])
                        clear HFA HAN
                        go_wp2
                        go_roundw
                        case rel => exact ⟨j + 1, by omega, by go_num, Lib.hid (by rw [HAM.out]; exact HJ.out)⟩
                        case measure => simp [intOf]; omega
                      | true =>
                        have HAM : Hid (addLegs ws0 (x.f3.take (j + 1)) = ws ++ [y.f0]) := Lib.hid (by rw [HAN.out, HFA.out, if_pos rfl])
                        clear HFA HAN
                        go_wp2_with (at_builtin; refine StopS_.out (p := _) ?_)
                        refine ⟨?_⟩
                        refine Kd.R_append Kd.string (w0 := w) (W := wm) w.heap.size rfl _ _ 45 9 _ 16 rfl Tryd.underlying45 info_s rfl (by decide) (by decide) (.slice Aw ws.length cw) ws y.f0 [.string y.f0] (fun _ => True) (fun _ => False) rfl rfl rfl (fun _ h => h.elim) (fun _ _ => trivial) HJ.out.who HJ.out.below HJ.out.below.size (by omega) ?_
                        intro v2 w10 ho2 hb2 hg2 hat2
                        have HJ2 := Lib.hid (HJ.out.add_who ho2 hb2 hg2)
                        clear ho2 hb2 hg2 hat2
                        go_wp2
                        go_roundw
                        case rel => exact ⟨j + 1, by omega, by go_num, Lib.hid (by rw [HAM.out]; exact HJ2.out)⟩
                        case measure => simp [intOf]; omega
                · have m1 : decide ((j : Int) < (x.f3.length : Int)) = false := decide_eq_false (by omega)
                  have m2 : decide (j < x.f3.length) = false := decide_eq_false hjl
                  obtain rfl : j = x.f3.length := by omega
                  have HJE : Hid (JS w (keptTo l0 (k + 1)) (whoOf (keptTo l0 (k + 1))) v1 u13 wi) := Lib.hid (by
                    have h := HJ.out
                    rw [List.take_length] at h
                    rw [HWN.out, HGN.out]
                    exact h)
                  go_wp2
                  go_roundw
                  case rel => exact ⟨k + 1, by omega, by omega, by go_num, HJE⟩
                  case measure => simp [intOf]; omega
      · have hn3 : decide ((k : Int) < 10) = false := decide_eq_false (by omega)
        have hn4 : decide (k < 10) = false := decide_eq_false h10
        go_wp2
        have HKL := Lib.hid (kept_len l0 k)
        have HWL := Lib.hid (kept_who l0 k hk10)
        have HKF : Hid (∀ e ∈ keptTo l0 k, e.f3.length ≤ 50 ∧ ints64 e.f3 ∧ checkB e.f2 e.f3 = true) := Lib.hid (fun e he => ⟨(kept_facts he).2.1, goodEnt_ints (HG0.out e (kept_facts he).1), (kept_facts he).2.2.2⟩)
        obtain ⟨gd, hgd⟩ : ∃ gd, keptTo l0 k = gd := ⟨_, rfl⟩
        have HWW : Hid (whoOf gd = whoOf (keptTo l0 k)) := Lib.hid (by rw [hgd])
        rw [hgd] at HS HKL HKF HWL
        obtain ⟨ws, hws⟩ : ∃ ws, whoOf gd = ws := ⟨_, rfl⟩
        rw [hws] at HS HWL
        have HWS := Lib.hid hws
        clear hgd hws HWW
        obtain ⟨Ag, cg, hvg⟩ := Kd.R_slice HS.out.good
        subst hvg
        obtain ⟨Aw, cw, hvw⟩ := Kd.R_slice HS.out.who
        subst hvw
        have HJ0 : Hid (JT w gd ws (.slice Ag gd.length cg) (.slice Aw ws.length cw) (sumsTo gd ws a1 lo hi 0) (.slice none 0 0) wo) := Lib.hid ⟨HS.out, Kd.R_nil _ _ _ _ _⟩
        clear HS
        go_loopw [21, 22] (fun v i wr => ∃ m : Nat, m ≤ ws.length ∧ i = .int .i64 m ∧ Hid (JT w gd ws (.slice Ag gd.length cg) (.slice Aw ws.length cw) (sumsTo gd ws a1 lo hi m) v wr) ∧ Hid (in64s (sumsTo gd ws a1 lo hi m))) (fun _ i _ => ws.length - (intOf i).toNat)
        case atStart => exact ⟨0, Nat.zero_le _, rfl, HJ0, Lib.hid (fun z hz => by cases hz)⟩
        case round =>
          clear HJ0
          obtain ⟨m, hm, rfl, HT, H64⟩ := hrel
          obtain ⟨wt, rfl⟩ : ∃ wt : World, wt = wr := ⟨_, rfl⟩
          have hmw : ws.length ≤ 500 := HWL.out
          by_cases hml : m < ws.length
          · have m3 : decide ((m : Int) < (ws.length : Int)) = true := decide_eq_true (by omega)
            have m4 : decide (m < ws.length) = true := decide_eq_true hml
            obtain ⟨aw, haw, r0⟩ := Kd.at_string ((Kd.R_reads' HT.out.js.who).2.2) (m : Int) (by omega) (by omega)
            subst haw
            replace r0 : wt.cell? (aw.add m) = some (.string (ws.getD m ⟨#[]⟩)) := r0
            have HSN := Lib.hid (sums_next gd ws a1 lo hi m hml)
            obtain ⟨n, hn⟩ : ∃ n, ws.getD m ⟨#[]⟩ = n := ⟨_, rfl⟩
            rw [hn] at HSN r0
            clear hn
            have HSP := Lib.hid (got_split gd n a1 lo md hi HORD.out.1 HORD.out.2)
            have HC1 : Hid (∀ W (v : Value) (e1 e2 : Int), JT w gd ws (.slice Ag gd.length cg) (.slice (some aw) ws.length cw) (sumsTo gd ws a1 lo hi m) v W → outOf (sumI (gotOf gd n a1 lo hi)) = (e1, e2) → Calls Tryd.prog 17 #[.slice Ag gd.length cg, .string n, .string a1, .int .u64 lo, .int .u64 hi] W fun e w' => e = .returned (.tuple #[.int .i64 e1, .int .i64 e2]) ∧ Below W.heap.size W w') := Lib.hid (fun W v e1 e2 h he => h.sum_calls n a1 lo hi e1 e2 (by rw [← he]; exact jsum_some gd n a1 lo hi (Nat.le_trans HKL.out hk10) (fun e h => (HKF.out e h).1) (fun e h => (HKF.out e h).2.1)))
            have HC2 : Hid (∀ W (v : Value) (e1 e2 : Int), JT w gd ws (.slice Ag gd.length cg) (.slice (some aw) ws.length cw) (sumsTo gd ws a1 lo hi m) v W → outOf (sumI (gotOf gd n a1 lo md)) = (e1, e2) → Calls Tryd.prog 17 #[.slice Ag gd.length cg, .string n, .string a1, .int .u64 lo, .int .u64 md] W fun e w' => e = .returned (.tuple #[.int .i64 e1, .int .i64 e2]) ∧ Below W.heap.size W w') := Lib.hid (fun W v e1 e2 h he => h.sum_calls n a1 lo md e1 e2 (by rw [← he]; exact jsum_some gd n a1 lo md (Nat.le_trans HKL.out hk10) (fun e h => (HKF.out e h).1) (fun e h => (HKF.out e h).2.1)))
            have HC3 : Hid (∀ W (v : Value) (e1 e2 : Int), JT w gd ws (.slice Ag gd.length cg) (.slice (some aw) ws.length cw) (sumsTo gd ws a1 lo hi m) v W → outOf (sumI (gotOf gd n a1 md hi)) = (e1, e2) → Calls Tryd.prog 17 #[.slice Ag gd.length cg, .string n, .string a1, .int .u64 md, .int .u64 hi] W fun e w' => e = .returned (.tuple #[.int .i64 e1, .int .i64 e2]) ∧ Below W.heap.size W w') := Lib.hid (fun W v e1 e2 h he => h.sum_calls n a1 md hi e1 e2 (by rw [← he]; exact jsum_some gd n a1 md hi (Nat.le_trans HKL.out hk10) (fun e h => (HKF.out e h).1) (fun e h => (HKF.out e h).2.1)))
            obtain ⟨s1, hs1⟩ : ∃ s, sumI (gotOf gd n a1 lo hi) = s := ⟨_, rfl⟩
            obtain ⟨s2, hs2⟩ : ∃ s, sumI (gotOf gd n a1 lo md) = s := ⟨_, rfl⟩
            obtain ⟨s3, hs3⟩ : ∃ s, sumI (gotOf gd n a1 md hi) = s := ⟨_, rfl⟩
            rw [hs1] at HC1 HSN HSP
            rw [hs2] at HC2 HSP
            rw [hs3] at HC3 HSP
            clear hs1 hs2 hs3
            have H1 : Hid (∀ W v, JT w gd ws (.slice Ag gd.length cg) (.slice (some aw) ws.length cw) (sumsTo gd ws a1 lo hi m) v W → Calls Tryd.prog 17 #[.slice Ag gd.length cg, .string n, .string a1, .int .u64 lo, .int .u64 hi] W fun e w' => e = .returned (.tuple #[.int .i64 (outOf s1).1, .int .i64 (outOf s1).2]) ∧ Below W.heap.size W w') := Lib.hid (fun W v h => HC1.out W v _ _ h rfl)
            have H2 : Hid (∀ W v, JT w gd ws (.slice Ag gd.length cg) (.slice (some aw) ws.length cw) (sumsTo gd ws a1 lo hi m) v W → Calls Tryd.prog 17 #[.slice Ag gd.length cg, .string n, .string a1, .int .u64 lo, .int .u64 md] W fun e w' => e = .returned (.tuple #[.int .i64 (outOf s2).1, .int .i64 (outOf s2).2]) ∧ Below W.heap.size W w') := Lib.hid (fun W v h => HC2.out W v _ _ h rfl)
            have H3 : Hid (∀ W v, JT w gd ws (.slice Ag gd.length cg) (.slice (some aw) ws.length cw) (sumsTo gd ws a1 lo hi m) v W → Calls Tryd.prog 17 #[.slice Ag gd.length cg, .string n, .string a1, .int .u64 md, .int .u64 hi] W fun e w' => e = .returned (.tuple #[.int .i64 (outOf s3).1, .int .i64 (outOf s3).2]) ∧ Below W.heap.size W w') := Lib.hid (fun W v h => HC3.out W v _ _ h rfl)
            clear HC1 HC2 HC3
            by_cases hok : in64 s1 ∧ in64 s2 ∧ in64 s3
            · obtain ⟨i1, i2, i3⟩ := hok
              rw [outOf_in i1] at H1
              rw [outOf_in i2] at H2
              rw [outOf_in i3] at H3
              have HADD : Hid (∀ W, Below w.heap.size w W → Calls Tryd.prog 18 #[.int .i64 s2, .int .i64 s3] W fun e w' => e = .returned (.tuple #[.int .i64 s1, .int .i64 0]) ∧ Below W.heap.size W w') := Lib.hid (fun W hb => (coin_Add.calls s2 s3 s1 0 W (HG.out.below hb) (by rw [add_some i2 i3, ← HSP.out, outOf_in i1])).mono fun e w' h => by first | exact h | exact ⟨h.1, h.2.below⟩)
              have HI1 := Lib.hid i1
              have HSL := Lib.hid (sums_len gd ws a1 lo hi m)
              clear i1 i2 i3
              go_wp2_with (first | (go_at_call 18; (with_reducible refine (HADD.out _ HT3.out.js.below).mono ?_); rintro e w8 ⟨rfl, hb⟩; have HT4 := Lib.hid (HT3.out.step hb); clear hb) | (go_at_call 17; (with_reducible refine (H3.out _ _ HT2.out).mono ?_); rintro e w7 ⟨rfl, hb⟩; have HT3 := Lib.hid (HT2.out.step hb); clear hb) | (go_at_call 17; (with_reducible refine (H2.out _ _ HT1.out).mono ?_); rintro e w6 ⟨rfl, hb⟩; have HT2 := Lib.hid (HT1.out.step hb); have r2 := (hb.cell (World.block_lt_of_cell? w5 _ r1)).trans r1; clear hb r1) | (go_at_call 17; (with_reducible refine (H1.out _ _ HT.out).mono ?_); rintro e w5 ⟨rfl, hb⟩; have HT1 := Lib.hid (HT.out.step hb); have r1 := (hb.cell (World.block_lt_of_cell? wt _ r0)).trans r0; clear hb r0) | (at_builtin; refine StopS_.out (p := _) ?_))
              refine ⟨?_⟩
              refine Kd.R_append (Kd.int .i64) (w0 := w) (W := w8) w.heap.size rfl _ _ 46 2 _ 8 rfl Tryd.underlying46 info_i64 rfl (Nat.zero_lt_succ 0) (by decide) u21 (sumsTo gd ws a1 lo hi m) s1 [.int .i64 s1] (fun _ => True) (fun _ => False) rfl rfl rfl (fun _ h => h.elim) (fun _ _ => trivial) HT4.out.row HT4.out.js.below HT4.out.js.below.size (by have := HSL.out; omega) ?_
              intro v2 w9 ho2 hb2 hg2 hat2
              have HT5 := Lib.hid (HT4.out.add ho2 hb2 hg2)
              clear ho2 hb2 hg2 hat2
              go_wp2
              go_roundw
              case rel => exact ⟨m + 1, by omega, by go_num, Lib.hid (by rw [HSN.out]; exact HT5.out), Lib.hid (by rw [HSN.out]; exact in64s_add H64.out HI1.out)⟩
              case measure => simp [intOf]; omega
            · clear HSP HSN
              by_cases i1 : in64 s1
              · rw [outOf_in i1] at H1
                by_cases i2 : in64 s2
                · rw [outOf_in i2] at H2
                  rw [outOf_over (fun i3 => hok ⟨i1, i2, i3⟩)] at H3
                  clear hok i1 i2
                  go_wp2_with (first | (go_at_call 17; (with_reducible refine (H3.out _ _ HT2.out).mono ?_); rintro e w7 ⟨rfl, hb⟩; have HT3 := Lib.hid (HT2.out.step hb); clear hb) | (go_at_call 17; (with_reducible refine (H2.out _ _ HT1.out).mono ?_); rintro e w6 ⟨rfl, hb⟩; have HT2 := Lib.hid (HT1.out.step hb); have r2 := (hb.cell (World.block_lt_of_cell? w5 _ r1)).trans r1; clear hb r1) | (go_at_call 17; (with_reducible refine (H1.out _ _ HT.out).mono ?_); rintro e w5 ⟨rfl, hb⟩; have HT1 := Lib.hid (HT.out.step hb); have r1 := (hb.cell (World.block_lt_of_cell? wt _ r0)).trans r0; clear hb r0))
                  go_ret
                  exact ⟨rfl, HT3.out.js.below⟩
                · rw [outOf_over i2] at H2
                  obtain ⟨z3, hz3⟩ : ∃ z, (outOf s3).1 = z := ⟨_, rfl⟩
                  obtain ⟨e3, he3⟩ : ∃ z, (outOf s3).2 = z := ⟨_, rfl⟩
                  rw [hz3, he3] at H3
                  clear hok i1 i2 hz3 he3
                  go_wp2_with (first | (go_at_call 17; (with_reducible refine (H3.out _ _ HT2.out).mono ?_); rintro e w7 ⟨rfl, hb⟩; have HT3 := Lib.hid (HT2.out.step hb); clear hb) | (go_at_call 17; (with_reducible refine (H2.out _ _ HT1.out).mono ?_); rintro e w6 ⟨rfl, hb⟩; have HT2 := Lib.hid (HT1.out.step hb); have r2 := (hb.cell (World.block_lt_of_cell? w5 _ r1)).trans r1; clear hb r1) | (go_at_call 17; (with_reducible refine (H1.out _ _ HT.out).mono ?_); rintro e w5 ⟨rfl, hb⟩; have HT1 := Lib.hid (HT.out.step hb); have r1 := (hb.cell (World.block_lt_of_cell? wt _ r0)).trans r0; clear hb r0))
                  go_ret
                  exact ⟨rfl, HT3.out.js.below⟩
              · rw [outOf_over i1] at H1
                obtain ⟨z2, hz2⟩ : ∃ z, (outOf s2).1 = z := ⟨_, rfl⟩
                obtain ⟨e2, he2⟩ : ∃ z, (outOf s2).2 = z := ⟨_, rfl⟩
                rw [hz2, he2] at H2
                obtain ⟨z3, hz3⟩ : ∃ z, (outOf s3).1 = z := ⟨_, rfl⟩
                obtain ⟨e3, he3⟩ : ∃ z, (outOf s3).2 = z := ⟨_, rfl⟩
                rw [hz3, he3] at H3
                clear hok i1 hz2 he2 hz3 he3
                go_wp2_with (first | (go_at_call 17; (with_reducible refine (H3.out _ _ HT2.out).mono ?_); rintro e w7 ⟨rfl, hb⟩; have HT3 := Lib.hid (HT2.out.step hb); clear hb) | (go_at_call 17; (with_reducible refine (H2.out _ _ HT1.out).mono ?_); rintro e w6 ⟨rfl, hb⟩; have HT2 := Lib.hid (HT1.out.step hb); have r2 := (hb.cell (World.block_lt_of_cell? w5 _ r1)).trans r1; clear hb r1) | (go_at_call 17; (with_reducible refine (H1.out _ _ HT.out).mono ?_); rintro e w5 ⟨rfl, hb⟩; have HT1 := Lib.hid (HT.out.step hb); have r1 := (hb.cell (World.block_lt_of_cell? wt _ r0)).trans r0; clear hb r0))
                go_ret
                exact ⟨rfl, HT3.out.js.below⟩
          · have m3 : decide ((m : Int) < (ws.length : Int)) = false := decide_eq_false (by omega)
            have m4 : decide (m < ws.length) = false := decide_eq_false hml
            obtain rfl : m = ws.length := by omega
            have HZ : Hid (coin_Sum.f (sumsTo gd ws a1 lo hi ws.length) = some (0, 0)) := Lib.hid (by
              have h1 := sums_len gd ws a1 lo hi ws.length
              have h2 := all_zero gd a1 lo hi (fun e he => (HKF.out e he).2.2)
              rw [HWS.out] at h2
              rw [sum_some (by omega) H64.out]
              unfold sumsTo
              rw [List.take_length, h2, outOf_in (by unfold in64; omega)])
            obtain ⟨zs, hzs⟩ : ∃ zs, sumsTo gd ws a1 lo hi ws.length = zs := ⟨_, rfl⟩
            rw [hzs] at HZ HT
            clear hzs H64
            obtain ⟨Az, cz, hvz, hcz, hCz⟩ := Kd.R_reads HT.out.row
            subst hvz
            have HCS : Hid (Calls Tryd.prog 19 #[.slice Az zs.length cz] wt fun e w' => e = .returned (.tuple #[.int .i64 0, .int .i64 0]) ∧ Below wt.heap.size wt w') := Lib.hid (coin_Sum.calls Az cz zs 0 0 wt HT.out.js.glob hCz hcz HZ.out)
            clear hCz hcz
            go_wp2_with (go_at_call 19; (with_reducible refine (HCS.out).mono ?_); rintro e w5 ⟨rfl, hb⟩; have HB5 := Lib.hid hb; clear hb)
            go_ret
            exact ⟨rfl, below_step HT.out.js.below HB5.out⟩
    · have hn1 : decide ((k : Int) < (l0.length : Int)) = false := decide_eq_false (by omega)
      have hn2 : decide (k < l0.length) = false := decide_eq_false hlt
      go_wp2
      have HKL := Lib.hid (kept_len l0 k)
      have HWL := Lib.hid (kept_who l0 k hk10)
      have HKF : Hid (∀ e ∈ keptTo l0 k, e.f3.length ≤ 50 ∧ ints64 e.f3 ∧ checkB e.f2 e.f3 = true) := Lib.hid (fun e he => ⟨(kept_facts he).2.1, goodEnt_ints (HG0.out e (kept_facts he).1), (kept_facts he).2.2.2⟩)
      obtain ⟨gd, hgd⟩ : ∃ gd, keptTo l0 k = gd := ⟨_, rfl⟩
      have HWW : Hid (whoOf gd = whoOf (keptTo l0 k)) := Lib.hid (by rw [hgd])
      rw [hgd] at HS HKL HKF HWL
      obtain ⟨ws, hws⟩ : ∃ ws, whoOf gd = ws := ⟨_, rfl⟩
      rw [hws] at HS HWL
      have HWS := Lib.hid hws
      clear hgd hws HWW
      obtain ⟨Ag, cg, hvg⟩ := Kd.R_slice HS.out.good
      subst hvg
      obtain ⟨Aw, cw, hvw⟩ := Kd.R_slice HS.out.who
      subst hvw
      have HJ0 : Hid (JT w gd ws (.slice Ag gd.length cg) (.slice Aw ws.length cw) (sumsTo gd ws a1 lo hi 0) (.slice none 0 0) wo) := Lib.hid ⟨HS.out, Kd.R_nil _ _ _ _ _⟩
      clear HS
      go_loopw [21, 22] (fun v i wr => ∃ m : Nat, m ≤ ws.length ∧ i = .int .i64 m ∧ Hid (JT w gd ws (.slice Ag gd.length cg) (.slice Aw ws.length cw) (sumsTo gd ws a1 lo hi m) v wr) ∧ Hid (in64s (sumsTo gd ws a1 lo hi m))) (fun _ i _ => ws.length - (intOf i).toNat)
      case atStart => exact ⟨0, Nat.zero_le _, rfl, HJ0, Lib.hid (fun z hz => by cases hz)⟩
      case round =>
        clear HJ0
        obtain ⟨m, hm, rfl, HT, H64⟩ := hrel
        obtain ⟨wt, rfl⟩ : ∃ wt : World, wt = wr := ⟨_, rfl⟩
        have hmw : ws.length ≤ 500 := HWL.out
        by_cases hml : m < ws.length
        · have m3 : decide ((m : Int) < (ws.length : Int)) = true := decide_eq_true (by omega)
          have m4 : decide (m < ws.length) = true := decide_eq_true hml
          obtain ⟨aw, haw, r0⟩ := Kd.at_string ((Kd.R_reads' HT.out.js.who).2.2) (m : Int) (by omega) (by omega)
          subst haw
          replace r0 : wt.cell? (aw.add m) = some (.string (ws.getD m ⟨#[]⟩)) := r0
          have HSN := Lib.hid (sums_next gd ws a1 lo hi m hml)
          obtain ⟨n, hn⟩ : ∃ n, ws.getD m ⟨#[]⟩ = n := ⟨_, rfl⟩
          rw [hn] at HSN r0
          clear hn
          have HSP := Lib.hid (got_split gd n a1 lo md hi HORD.out.1 HORD.out.2)
          have HC1 : Hid (∀ W (v : Value) (e1 e2 : Int), JT w gd ws (.slice Ag gd.length cg) (.slice (some aw) ws.length cw) (sumsTo gd ws a1 lo hi m) v W → outOf (sumI (gotOf gd n a1 lo hi)) = (e1, e2) → Calls Tryd.prog 17 #[.slice Ag gd.length cg, .string n, .string a1, .int .u64 lo, .int .u64 hi] W fun e w' => e = .returned (.tuple #[.int .i64 e1, .int .i64 e2]) ∧ Below W.heap.size W w') := Lib.hid (fun W v e1 e2 h he => h.sum_calls n a1 lo hi e1 e2 (by rw [← he]; exact jsum_some gd n a1 lo hi (Nat.le_trans HKL.out hk10) (fun e h => (HKF.out e h).1) (fun e h => (HKF.out e h).2.1)))
          have HC2 : Hid (∀ W (v : Value) (e1 e2 : Int), JT w gd ws (.slice Ag gd.length cg) (.slice (some aw) ws.length cw) (sumsTo gd ws a1 lo hi m) v W → outOf (sumI (gotOf gd n a1 lo md)) = (e1, e2) → Calls Tryd.prog 17 #[.slice Ag gd.length cg, .string n, .string a1, .int .u64 lo, .int .u64 md] W fun e w' => e = .returned (.tuple #[.int .i64 e1, .int .i64 e2]) ∧ Below W.heap.size W w') := Lib.hid (fun W v e1 e2 h he => h.sum_calls n a1 lo md e1 e2 (by rw [← he]; exact jsum_some gd n a1 lo md (Nat.le_trans HKL.out hk10) (fun e h => (HKF.out e h).1) (fun e h => (HKF.out e h).2.1)))
          have HC3 : Hid (∀ W (v : Value) (e1 e2 : Int), JT w gd ws (.slice Ag gd.length cg) (.slice (some aw) ws.length cw) (sumsTo gd ws a1 lo hi m) v W → outOf (sumI (gotOf gd n a1 md hi)) = (e1, e2) → Calls Tryd.prog 17 #[.slice Ag gd.length cg, .string n, .string a1, .int .u64 md, .int .u64 hi] W fun e w' => e = .returned (.tuple #[.int .i64 e1, .int .i64 e2]) ∧ Below W.heap.size W w') := Lib.hid (fun W v e1 e2 h he => h.sum_calls n a1 md hi e1 e2 (by rw [← he]; exact jsum_some gd n a1 md hi (Nat.le_trans HKL.out hk10) (fun e h => (HKF.out e h).1) (fun e h => (HKF.out e h).2.1)))
          obtain ⟨s1, hs1⟩ : ∃ s, sumI (gotOf gd n a1 lo hi) = s := ⟨_, rfl⟩
          obtain ⟨s2, hs2⟩ : ∃ s, sumI (gotOf gd n a1 lo md) = s := ⟨_, rfl⟩
          obtain ⟨s3, hs3⟩ : ∃ s, sumI (gotOf gd n a1 md hi) = s := ⟨_, rfl⟩
          rw [hs1] at HC1 HSN HSP
          rw [hs2] at HC2 HSP
          rw [hs3] at HC3 HSP
          clear hs1 hs2 hs3
          have H1 : Hid (∀ W v, JT w gd ws (.slice Ag gd.length cg) (.slice (some aw) ws.length cw) (sumsTo gd ws a1 lo hi m) v W → Calls Tryd.prog 17 #[.slice Ag gd.length cg, .string n, .string a1, .int .u64 lo, .int .u64 hi] W fun e w' => e = .returned (.tuple #[.int .i64 (outOf s1).1, .int .i64 (outOf s1).2]) ∧ Below W.heap.size W w') := Lib.hid (fun W v h => HC1.out W v _ _ h rfl)
          have H2 : Hid (∀ W v, JT w gd ws (.slice Ag gd.length cg) (.slice (some aw) ws.length cw) (sumsTo gd ws a1 lo hi m) v W → Calls Tryd.prog 17 #[.slice Ag gd.length cg, .string n, .string a1, .int .u64 lo, .int .u64 md] W fun e w' => e = .returned (.tuple #[.int .i64 (outOf s2).1, .int .i64 (outOf s2).2]) ∧ Below W.heap.size W w') := Lib.hid (fun W v h => HC2.out W v _ _ h rfl)
          have H3 : Hid (∀ W v, JT w gd ws (.slice Ag gd.length cg) (.slice (some aw) ws.length cw) (sumsTo gd ws a1 lo hi m) v W → Calls Tryd.prog 17 #[.slice Ag gd.length cg, .string n, .string a1, .int .u64 md, .int .u64 hi] W fun e w' => e = .returned (.tuple #[.int .i64 (outOf s3).1, .int .i64 (outOf s3).2]) ∧ Below W.heap.size W w') := Lib.hid (fun W v h => HC3.out W v _ _ h rfl)
          clear HC1 HC2 HC3
          by_cases hok : in64 s1 ∧ in64 s2 ∧ in64 s3
          · obtain ⟨i1, i2, i3⟩ := hok
            rw [outOf_in i1] at H1
            rw [outOf_in i2] at H2
            rw [outOf_in i3] at H3
            have HADD : Hid (∀ W, Below w.heap.size w W → Calls Tryd.prog 18 #[.int .i64 s2, .int .i64 s3] W fun e w' => e = .returned (.tuple #[.int .i64 s1, .int .i64 0]) ∧ Below W.heap.size W w') := Lib.hid (fun W hb => (coin_Add.calls s2 s3 s1 0 W (HG.out.below hb) (by rw [add_some i2 i3, ← HSP.out, outOf_in i1])).mono fun e w' h => by first | exact h | exact ⟨h.1, h.2.below⟩)
            have HI1 := Lib.hid i1
            have HSL := Lib.hid (sums_len gd ws a1 lo hi m)
            clear i1 i2 i3
            go_wp2_with (first | (go_at_call 18; (with_reducible refine (HADD.out _ HT3.out.js.below).mono ?_); rintro e w8 ⟨rfl, hb⟩; have HT4 := Lib.hid (HT3.out.step hb); clear hb) | (go_at_call 17; (with_reducible refine (H3.out _ _ HT2.out).mono ?_); rintro e w7 ⟨rfl, hb⟩; have HT3 := Lib.hid (HT2.out.step hb); clear hb) | (go_at_call 17; (with_reducible refine (H2.out _ _ HT1.out).mono ?_); rintro e w6 ⟨rfl, hb⟩; have HT2 := Lib.hid (HT1.out.step hb); have r2 := (hb.cell (World.block_lt_of_cell? w5 _ r1)).trans r1; clear hb r1) | (go_at_call 17; (with_reducible refine (H1.out _ _ HT.out).mono ?_); rintro e w5 ⟨rfl, hb⟩; have HT1 := Lib.hid (HT.out.step hb); have r1 := (hb.cell (World.block_lt_of_cell? wt _ r0)).trans r0; clear hb r0) | (at_builtin; refine StopS_.out (p := _) ?_))
            refine ⟨?_⟩
            refine Kd.R_append (Kd.int .i64) (w0 := w) (W := w8) w.heap.size rfl _ _ 46 2 _ 8 rfl Tryd.underlying46 info_i64 rfl (Nat.zero_lt_succ 0) (by decide) u21 (sumsTo gd ws a1 lo hi m) s1 [.int .i64 s1] (fun _ => True) (fun _ => False) rfl rfl rfl (fun _ h => h.elim) (fun _ _ => trivial) HT4.out.row HT4.out.js.below HT4.out.js.below.size (by have := HSL.out; omega) ?_
            intro v2 w9 ho2 hb2 hg2 hat2
            have HT5 := Lib.hid (HT4.out.add ho2 hb2 hg2)
            clear ho2 hb2 hg2 hat2
            go_wp2
            go_roundw
            case rel => exact ⟨m + 1, by omega, by go_num, Lib.hid (by rw [HSN.out]; exact HT5.out), Lib.hid (by rw [HSN.out]; exact in64s_add H64.out HI1.out)⟩
            case measure => simp [intOf]; omega
          · clear HSP HSN
            by_cases i1 : in64 s1
            · rw [outOf_in i1] at H1
              by_cases i2 : in64 s2
              · rw [outOf_in i2] at H2
                rw [outOf_over (fun i3 => hok ⟨i1, i2, i3⟩)] at H3
                clear hok i1 i2
                go_wp2_with (first | (go_at_call 17; (with_reducible refine (H3.out _ _ HT2.out).mono ?_); rintro e w7 ⟨rfl, hb⟩; have HT3 := Lib.hid (HT2.out.step hb); clear hb) | (go_at_call 17; (with_reducible refine (H2.out _ _ HT1.out).mono ?_); rintro e w6 ⟨rfl, hb⟩; have HT2 := Lib.hid (HT1.out.step hb); have r2 := (hb.cell (World.block_lt_of_cell? w5 _ r1)).trans r1; clear hb r1) | (go_at_call 17; (with_reducible refine (H1.out _ _ HT.out).mono ?_); rintro e w5 ⟨rfl, hb⟩; have HT1 := Lib.hid (HT.out.step hb); have r1 := (hb.cell (World.block_lt_of_cell? wt _ r0)).trans r0; clear hb r0))
                go_ret
                exact ⟨rfl, HT3.out.js.below⟩
              · rw [outOf_over i2] at H2
                obtain ⟨z3, hz3⟩ : ∃ z, (outOf s3).1 = z := ⟨_, rfl⟩
                obtain ⟨e3, he3⟩ : ∃ z, (outOf s3).2 = z := ⟨_, rfl⟩
                rw [hz3, he3] at H3
                clear hok i1 i2 hz3 he3
                go_wp2_with (first | (go_at_call 17; (with_reducible refine (H3.out _ _ HT2.out).mono ?_); rintro e w7 ⟨rfl, hb⟩; have HT3 := Lib.hid (HT2.out.step hb); clear hb) | (go_at_call 17; (with_reducible refine (H2.out _ _ HT1.out).mono ?_); rintro e w6 ⟨rfl, hb⟩; have HT2 := Lib.hid (HT1.out.step hb); have r2 := (hb.cell (World.block_lt_of_cell? w5 _ r1)).trans r1; clear hb r1) | (go_at_call 17; (with_reducible refine (H1.out _ _ HT.out).mono ?_); rintro e w5 ⟨rfl, hb⟩; have HT1 := Lib.hid (HT.out.step hb); have r1 := (hb.cell (World.block_lt_of_cell? wt _ r0)).trans r0; clear hb r0))
                go_ret
                exact ⟨rfl, HT3.out.js.below⟩
            · rw [outOf_over i1] at H1
              obtain ⟨z2, hz2⟩ : ∃ z, (outOf s2).1 = z := ⟨_, rfl⟩
              obtain ⟨e2, he2⟩ : ∃ z, (outOf s2).2 = z := ⟨_, rfl⟩
              rw [hz2, he2] at H2
              obtain ⟨z3, hz3⟩ : ∃ z, (outOf s3).1 = z := ⟨_, rfl⟩
              obtain ⟨e3, he3⟩ : ∃ z, (outOf s3).2 = z := ⟨_, rfl⟩
              rw [hz3, he3] at H3
              clear hok i1 hz2 he2 hz3 he3
              go_wp2_with (first | (go_at_call 17; (with_reducible refine (H3.out _ _ HT2.out).mono ?_); rintro e w7 ⟨rfl, hb⟩; have HT3 := Lib.hid (HT2.out.step hb); clear hb) | (go_at_call 17; (with_reducible refine (H2.out _ _ HT1.out).mono ?_); rintro e w6 ⟨rfl, hb⟩; have HT2 := Lib.hid (HT1.out.step hb); have r2 := (hb.cell (World.block_lt_of_cell? w5 _ r1)).trans r1; clear hb r1) | (go_at_call 17; (with_reducible refine (H1.out _ _ HT.out).mono ?_); rintro e w5 ⟨rfl, hb⟩; have HT1 := Lib.hid (HT.out.step hb); have r1 := (hb.cell (World.block_lt_of_cell? wt _ r0)).trans r0; clear hb r0))
              go_ret
              exact ⟨rfl, HT3.out.js.below⟩
        · have m3 : decide ((m : Int) < (ws.length : Int)) = false := decide_eq_false (by omega)
          have m4 : decide (m < ws.length) = false := decide_eq_false hml
          obtain rfl : m = ws.length := by omega
          have HZ : Hid (coin_Sum.f (sumsTo gd ws a1 lo hi ws.length) = some (0, 0)) := Lib.hid (by
            have h1 := sums_len gd ws a1 lo hi ws.length
            have h2 := all_zero gd a1 lo hi (fun e he => (HKF.out e he).2.2)
            rw [HWS.out] at h2
            rw [sum_some (by omega) H64.out]
            unfold sumsTo
            rw [List.take_length, h2, outOf_in (by unfold in64; omega)])
          obtain ⟨zs, hzs⟩ : ∃ zs, sumsTo gd ws a1 lo hi ws.length = zs := ⟨_, rfl⟩
          rw [hzs] at HZ HT
          clear hzs H64
          obtain ⟨Az, cz, hvz, hcz, hCz⟩ := Kd.R_reads HT.out.row
          subst hvz
          have HCS : Hid (Calls Tryd.prog 19 #[.slice Az zs.length cz] wt fun e w' => e = .returned (.tuple #[.int .i64 0, .int .i64 0]) ∧ Below wt.heap.size wt w') := Lib.hid (coin_Sum.calls Az cz zs 0 0 wt HT.out.js.glob hCz hcz HZ.out)
          clear hCz hcz
          go_wp2_with (go_at_call 19; (with_reducible refine (HCS.out).mono ?_); rintro e w5 ⟨rfl, hb⟩; have HB5 := Lib.hid hb; clear hb)
          go_ret
          exact ⟨rfl, below_step HT.out.js.below HB5.out⟩
end Go.Proofs.YtjlifcbddednaaaDoor.E
