/- The walk of cambistref20.names. The walk of cambistref20.Check: it answers as wire.Check. -/
import Derived.Test.YtdpdbmdnmgaeiaaDoorWords
import Derived.Test.YtdpdbmdnmgaeiaaDoorRefA
import Derived.Test.YtdpdbmdnmgaeiaaDoorPx1
import Derived.Test.YtdpdbmdnmgaeiaaDoorPx2
import Derived.Lib.Hide
import Derived.Deep.DeepCutAuto
import Derived.Test.YtdpdbmdnmgaeiaaDoorCheck
namespace Go.Proofs.YtdpdbmdnmgaeiaaDoor.E
open Go.RowKit Go.Proofs.YtdpdbmdnmgaeiaaDoor.P Go.Proofs.YtdpdbmdnmgaeiaaDoorW.PrintWords Go.Proofs.YtdpdbmdnmgaeiaaDoorW.PrintLast
/-- A command and what its kind has, boxed, lie where they were laid. -/
structure CH (w : World) (cs hs : Array Value) (W : World) : Prop where
  blk1 : W.heap[w.heap.size]? = some (.cells cs 25 (0, 0))
  blk2 : W.heap[w.heap.size + 1]? = some (.cells hs 46 (0, 0))
  below : Below w.heap.size w W
  glob : Glob W
theorem CH.start {w : World} {cs hs : Array Value} (h : Glob w) : CH w cs hs ((w.alloc (.cells cs 25)).alloc (.cells hs 46)) := by
  have hb : Below w.heap.size w ((w.alloc (.cells cs 25)).alloc (.cells hs 46)) := below_alloc (below_alloc (Below.refl _ _) _) _
  refine ⟨blk_alloc (heap_alloc_new _ _) _, ?_, hb, h.below hb⟩
  have := heap_alloc_new (w.alloc (.cells cs 25)) (.cells hs 46)
  simpa using this
theorem CH.step {w W W' : World} {cs hs : Array Value} (h : CH w cs hs W) (hb : Below W.heap.size W W') : CH w cs hs W' := ⟨blk_below h.blk1 hb, blk_below h.blk2 hb, below_then h.below h.below.size hb, h.glob.below hb⟩
set_option maxHeartbeats 8000000 in
set_option maxRecDepth 100000 in
theorem ref_names_calls (a0_0 : Int) (a0_1 : ByteArray) (a0_2 : ByteArray) (a0_3 : ByteArray) (a0_4 : ByteArray) (a0_5 : Int) (a0_6 : Int) (a0_7 : Int) (h0 h1 h2 h3 h4 h5 h6 : Bool) (w : World) (hG : Glob w) (hs : fewS a0_1 a0_2 a0_3 a0_4) :
    Calls Tryd.prog 38 #[.agg #[.int .i64 a0_0, .string a0_1, .string a0_2, .string a0_3, .string a0_4, .int .i64 a0_5, .int .i64 a0_6, .int .u64 a0_7], .agg #[.bool h0, .bool h1, .bool h2, .bool h3, .bool h4, .bool h5, .bool h6]] w fun e w' => e = .returned (.bool ((bif h0 then isPart isSign 12 a0_1 else a0_1.toList == []) && (bif h1 then (isWho a0_2 && (!(a0_2.toList == ([119, 111, 114, 108, 100] : List UInt8)) || decide (10 ≤ a0_0))) else a0_2.toList == []) && (bif h2 then isPart isUp 6 a0_3 else a0_3.toList == []) && (bif h3 then isMarket a0_4 else a0_4.toList == []))) ∧ Below w.heap.size w w' := by
  obtain ⟨hs1, hs2, hs3, hs4⟩ := hs
  obtain ⟨k1, hk1⟩ := Ev.rounds (ref_word a0_1 (by omega))
  obtain ⟨k2, hk2⟩ := Ev.rounds (ref_who a0_2 (by omega))
  obtain ⟨k3, hk3⟩ := Ev.rounds (ref_asset a0_3 (by omega))
  obtain ⟨k4, hk4⟩ := Ev.rounds (ref_market a0_4 (by omega))
  have HW : Hid (∀ W, Glob W → Calls Tryd.prog 47 #[.string a0_1] W fun e w' => e = .returned (.bool (isPart isSign 12 a0_1)) ∧ Drawn0 W w') := Lib.hid fun W hW => cambistref02_Word.calls k1 a0_1 _ W hW hk1
  have HO : Hid (∀ W, Glob W → Calls Tryd.prog 48 #[.string a0_2] W fun e w' => e = .returned (.bool (isWho a0_2)) ∧ Drawn0 W w') := Lib.hid fun W hW => cambistref02_Who.calls k2 a0_2 _ W hW hk2
  have HA : Hid (∀ W, Glob W → Calls Tryd.prog 49 #[.string a0_3] W fun e w' => e = .returned (.bool (isPart isUp 6 a0_3)) ∧ Drawn0 W w') := Lib.hid fun W hW => cambistref02_Asset.calls k3 a0_3 _ W hW hk3
  have HM : Hid (∀ W, Glob W → Calls Tryd.prog 50 #[.string a0_4] W fun e w' => e = .returned (.tuple #[.string (marketOf a0_4).1, .string (marketOf a0_4).2.1, .int .i64 (marketOf a0_4).2.2]) ∧ Drawn0 W w') := Lib.hid fun W hW => cambistref13_Market.calls k4 a0_4 _ _ _ W hW hk4
  clear hk1 hk2 hk3 hk4 hs1 hs2 hs3 hs4
  obtain ⟨bs, hbs⟩ : ∃ b, isPart isSign 12 a0_1 = b := ⟨_, rfl⟩
  obtain ⟨bw, hbw⟩ : ∃ b, isWho a0_2 = b := ⟨_, rfl⟩
  obtain ⟨bu, hbu⟩ : ∃ b, isPart isUp 6 a0_3 = b := ⟨_, rfl⟩
  obtain ⟨em, hem⟩ : ∃ b, (marketOf a0_4).2.2 = b := ⟨_, rfl⟩
  obtain ⟨ma, hma⟩ : ∃ b, (marketOf a0_4).1 = b := ⟨_, rfl⟩
  obtain ⟨mb, hmb⟩ : ∃ b, (marketOf a0_4).2.1 = b := ⟨_, rfl⟩
  obtain ⟨be, hbe⟩ : ∃ b, (em == 0) = b := ⟨_, rfl⟩
  obtain ⟨gw, hgw⟩ : ∃ b, (a0_2.toList == ([119, 111, 114, 108, 100] : List UInt8)) = b := ⟨_, rfl⟩
  obtain ⟨gk, hgk⟩ : ∃ b, decide (10 ≤ a0_0) = b := ⟨_, rfl⟩
  have hmk : isMarket a0_4 = be := by unfold isMarket; rw [hem]; exact hbe
  rw [hbs, hbw, hbu, hgw, hgk, hmk]
  rw [hbs] at HW; rw [hbw] at HO; rw [hbu] at HA; rw [hem, hma, hmb] at HM
  have Hbe := Lib.hid hbe; have Hgw := Lib.hid hgw; have Hgk := Lib.hid hgk
  clear hbs hbw hbu hem hma hmb hmk hbe hgw hgk
  have hch := CH.start (cs := #[.int .i64 a0_0, .string a0_1, .string a0_2, .string a0_3, .string a0_4, .int .i64 a0_5, .int .i64 a0_6, .int .u64 a0_7]) (hs := #[.bool h0, .bool h1, .bool h2, .bool h3, .bool h4, .bool h5, .bool h6]) hG
  clear hG
  go_enter Tryd.func38, Tryd.ntmps38
  go_upto_region 5 with (first | (go_at_call 47; refine (HW.out _ hch.glob).mono ?_; rintro e w1 ⟨rfl, hb⟩; replace hch := hch.step hb.below; clear hb; have c0 := blk_cell hch.blk1 0; have c1 := blk_cell hch.blk1 1; have c2 := blk_cell hch.blk1 2; have c3 := blk_cell hch.blk1 3; have c4 := blk_cell hch.blk1 4; have c5 := blk_cell hch.blk1 5; have c6 := blk_cell hch.blk1 6; have c7 := blk_cell hch.blk1 7; have e0 := blk_cell hch.blk2 0; have e1 := blk_cell hch.blk2 1; have e2 := blk_cell hch.blk2 2; have e3 := blk_cell hch.blk2 3; have e4 := blk_cell hch.blk2 4; have e5 := blk_cell hch.blk2 5; have e6 := blk_cell hch.blk2 6; simp only [List.getElem?_toArray, List.getElem?_cons_zero, List.getElem?_cons_succ] at c0 c1 c2 c3 c4 c5 c6 c7 e0 e1 e2 e3 e4 e5 e6) | (go_at_call 48; refine (HO.out _ hch.glob).mono ?_; rintro e w2 ⟨rfl, hb⟩; replace hch := hch.step hb.below; clear hb; have c0 := blk_cell hch.blk1 0; have c1 := blk_cell hch.blk1 1; have c2 := blk_cell hch.blk1 2; have c3 := blk_cell hch.blk1 3; have c4 := blk_cell hch.blk1 4; have c5 := blk_cell hch.blk1 5; have c6 := blk_cell hch.blk1 6; have c7 := blk_cell hch.blk1 7; have e0 := blk_cell hch.blk2 0; have e1 := blk_cell hch.blk2 1; have e2 := blk_cell hch.blk2 2; have e3 := blk_cell hch.blk2 3; have e4 := blk_cell hch.blk2 4; have e5 := blk_cell hch.blk2 5; have e6 := blk_cell hch.blk2 6; simp only [List.getElem?_toArray, List.getElem?_cons_zero, List.getElem?_cons_succ] at c0 c1 c2 c3 c4 c5 c6 c7 e0 e1 e2 e3 e4 e5 e6) | (go_at_call 49; refine (HA.out _ hch.glob).mono ?_; rintro e w3 ⟨rfl, hb⟩; replace hch := hch.step hb.below; clear hb; have c0 := blk_cell hch.blk1 0; have c1 := blk_cell hch.blk1 1; have c2 := blk_cell hch.blk1 2; have c3 := blk_cell hch.blk1 3; have c4 := blk_cell hch.blk1 4; have c5 := blk_cell hch.blk1 5; have c6 := blk_cell hch.blk1 6; have c7 := blk_cell hch.blk1 7; have e0 := blk_cell hch.blk2 0; have e1 := blk_cell hch.blk2 1; have e2 := blk_cell hch.blk2 2; have e3 := blk_cell hch.blk2 3; have e4 := blk_cell hch.blk2 4; have e5 := blk_cell hch.blk2 5; have e6 := blk_cell hch.blk2 6; simp only [List.getElem?_toArray, List.getElem?_cons_zero, List.getElem?_cons_succ] at c0 c1 c2 c3 c4 c5 c6 c7 e0 e1 e2 e3 e4 e5 e6) | (go_at_call 50; refine (HM.out _ hch.glob).mono ?_; rintro e w4 ⟨rfl, hb⟩; replace hch := hch.step hb.below; clear hb; have c0 := blk_cell hch.blk1 0; have c1 := blk_cell hch.blk1 1; have c2 := blk_cell hch.blk1 2; have c3 := blk_cell hch.blk1 3; have c4 := blk_cell hch.blk1 4; have c5 := blk_cell hch.blk1 5; have c6 := blk_cell hch.blk1 6; have c7 := blk_cell hch.blk1 7; have e0 := blk_cell hch.blk2 0; have e1 := blk_cell hch.blk2 1; have e2 := blk_cell hch.blk2 2; have e3 := blk_cell hch.blk2 3; have e4 := blk_cell hch.blk2 4; have e5 := blk_cell hch.blk2 5; have e6 := blk_cell hch.blk2 6; simp only [List.getElem?_toArray, List.getElem?_cons_zero, List.getElem?_cons_succ] at c0 c1 c2 c3 c4 c5 c6 c7 e0 e1 e2 e3 e4 e5 e6))
  have HCH := Lib.hid hch; clear hch
  try clear c0 c1 c2 c3 c4 c5 c6 c7 e0 e1 e2 e3 e4 e5 e6
  go_cut [11] (fun v11 wc => ∃ x : Bool, v11 = .bool x ∧ Hid (x = (bif h0 then bs else a0_1.toList == [])) ∧ Hid (CH w #[.int .i64 a0_0, .string a0_1, .string a0_2, .string a0_3, .string a0_4, .int .i64 a0_5, .int .i64 a0_6, .int .u64 a0_7] #[.bool h0, .bool h1, .bool h2, .bool h3, .bool h4, .bool h5, .bool h6] wc))
  case first =>
    have hch := HCH.out; have hbe := Hbe.out; have hgw := Hgw.out; have hgk := Hgk.out; have hgn : (a0_2.toList != ([119, 111, 114, 108, 100] : List UInt8)) = !gw := by rw [← hgw]; rfl
    have c0 := blk_cell hch.blk1 0; have c1 := blk_cell hch.blk1 1; have c2 := blk_cell hch.blk1 2; have c3 := blk_cell hch.blk1 3; have c4 := blk_cell hch.blk1 4; have c5 := blk_cell hch.blk1 5; have c6 := blk_cell hch.blk1 6; have c7 := blk_cell hch.blk1 7; have e0 := blk_cell hch.blk2 0; have e1 := blk_cell hch.blk2 1; have e2 := blk_cell hch.blk2 2; have e3 := blk_cell hch.blk2 3; have e4 := blk_cell hch.blk2 4; have e5 := blk_cell hch.blk2 5; have e6 := blk_cell hch.blk2 6; simp only [List.getElem?_toArray, List.getElem?_cons_zero, List.getElem?_cons_succ] at c0 c1 c2 c3 c4 c5 c6 c7 e0 e1 e2 e3 e4 e5 e6
    clear hch Hbe Hgw Hgk
    cases h0 <;> cases bs <;> (go_wp2; go_meet; (case rel => exact ⟨_, rfl, Lib.hid (by first | rfl | (simp; done)), HCH⟩))
  case rest =>
    clear HCH
    obtain ⟨x0, rfl, HX0, HCH⟩ := hcut
    go_upto_region 6 with (fail)
    go_cut [12] (fun v12 wc => ∃ x : Bool, v12 = .bool x ∧ Hid (x = (bif h1 then (bw && (!gw || gk)) else a0_2.toList == [])) ∧ Hid (CH w #[.int .i64 a0_0, .string a0_1, .string a0_2, .string a0_3, .string a0_4, .int .i64 a0_5, .int .i64 a0_6, .int .u64 a0_7] #[.bool h0, .bool h1, .bool h2, .bool h3, .bool h4, .bool h5, .bool h6] wc))
    case first =>
      have hch := HCH.out; have hbe := Hbe.out; have hgw := Hgw.out; have hgk := Hgk.out; have hgn : (a0_2.toList != ([119, 111, 114, 108, 100] : List UInt8)) = !gw := by rw [← hgw]; rfl
      have c0 := blk_cell hch.blk1 0; have c1 := blk_cell hch.blk1 1; have c2 := blk_cell hch.blk1 2; have c3 := blk_cell hch.blk1 3; have c4 := blk_cell hch.blk1 4; have c5 := blk_cell hch.blk1 5; have c6 := blk_cell hch.blk1 6; have c7 := blk_cell hch.blk1 7; have e0 := blk_cell hch.blk2 0; have e1 := blk_cell hch.blk2 1; have e2 := blk_cell hch.blk2 2; have e3 := blk_cell hch.blk2 3; have e4 := blk_cell hch.blk2 4; have e5 := blk_cell hch.blk2 5; have e6 := blk_cell hch.blk2 6; simp only [List.getElem?_toArray, List.getElem?_cons_zero, List.getElem?_cons_succ] at c0 c1 c2 c3 c4 c5 c6 c7 e0 e1 e2 e3 e4 e5 e6
      clear hch Hbe Hgw Hgk
      cases h1 <;> cases bw <;> cases gw <;> cases gk <;> (go_wp2; go_meet; (case rel => exact ⟨_, rfl, Lib.hid (by first | rfl | (simp; done)), HCH⟩))
    case rest =>
      clear HCH
      obtain ⟨x1, rfl, HX1, HCH⟩ := hcut
      go_upto_region 7 with (fail)
      go_cut [13] (fun v13 wc => ∃ x : Bool, v13 = .bool x ∧ Hid (x = (bif h2 then bu else a0_3.toList == [])) ∧ Hid (CH w #[.int .i64 a0_0, .string a0_1, .string a0_2, .string a0_3, .string a0_4, .int .i64 a0_5, .int .i64 a0_6, .int .u64 a0_7] #[.bool h0, .bool h1, .bool h2, .bool h3, .bool h4, .bool h5, .bool h6] wc))
      case first =>
        have hch := HCH.out; have hbe := Hbe.out; have hgw := Hgw.out; have hgk := Hgk.out; have hgn : (a0_2.toList != ([119, 111, 114, 108, 100] : List UInt8)) = !gw := by rw [← hgw]; rfl
        have c0 := blk_cell hch.blk1 0; have c1 := blk_cell hch.blk1 1; have c2 := blk_cell hch.blk1 2; have c3 := blk_cell hch.blk1 3; have c4 := blk_cell hch.blk1 4; have c5 := blk_cell hch.blk1 5; have c6 := blk_cell hch.blk1 6; have c7 := blk_cell hch.blk1 7; have e0 := blk_cell hch.blk2 0; have e1 := blk_cell hch.blk2 1; have e2 := blk_cell hch.blk2 2; have e3 := blk_cell hch.blk2 3; have e4 := blk_cell hch.blk2 4; have e5 := blk_cell hch.blk2 5; have e6 := blk_cell hch.blk2 6; simp only [List.getElem?_toArray, List.getElem?_cons_zero, List.getElem?_cons_succ] at c0 c1 c2 c3 c4 c5 c6 c7 e0 e1 e2 e3 e4 e5 e6
        clear hch Hbe Hgw Hgk
        cases h2 <;> cases bu <;> (go_wp2; go_meet; (case rel => exact ⟨_, rfl, Lib.hid (by first | rfl | (simp; done)), HCH⟩))
      case rest =>
        clear HCH
        obtain ⟨x2, rfl, HX2, HCH⟩ := hcut
        go_upto_region 8 with (fail)
        go_cut [14] (fun v14 wc => ∃ x : Bool, v14 = .bool x ∧ Hid (x = (bif h3 then be else a0_4.toList == [])) ∧ Hid (CH w #[.int .i64 a0_0, .string a0_1, .string a0_2, .string a0_3, .string a0_4, .int .i64 a0_5, .int .i64 a0_6, .int .u64 a0_7] #[.bool h0, .bool h1, .bool h2, .bool h3, .bool h4, .bool h5, .bool h6] wc))
        case first =>
          have hch := HCH.out; have hbe := Hbe.out; have hgw := Hgw.out; have hgk := Hgk.out; have hgn : (a0_2.toList != ([119, 111, 114, 108, 100] : List UInt8)) = !gw := by rw [← hgw]; rfl
          have c0 := blk_cell hch.blk1 0; have c1 := blk_cell hch.blk1 1; have c2 := blk_cell hch.blk1 2; have c3 := blk_cell hch.blk1 3; have c4 := blk_cell hch.blk1 4; have c5 := blk_cell hch.blk1 5; have c6 := blk_cell hch.blk1 6; have c7 := blk_cell hch.blk1 7; have e0 := blk_cell hch.blk2 0; have e1 := blk_cell hch.blk2 1; have e2 := blk_cell hch.blk2 2; have e3 := blk_cell hch.blk2 3; have e4 := blk_cell hch.blk2 4; have e5 := blk_cell hch.blk2 5; have e6 := blk_cell hch.blk2 6; simp only [List.getElem?_toArray, List.getElem?_cons_zero, List.getElem?_cons_succ] at c0 c1 c2 c3 c4 c5 c6 c7 e0 e1 e2 e3 e4 e5 e6
          clear hch Hbe Hgw Hgk
          cases h3 <;> cases be <;> (go_wp2; go_meet; (case rel => exact ⟨_, rfl, Lib.hid (by first | rfl | (simp; done)), HCH⟩))
        case rest =>
          clear HCH
          obtain ⟨x3, rfl, HX3, HCH⟩ := hcut
          clear Hbe Hgw Hgk HW HO HA HM
          cases x0 <;> cases x1 <;> cases x2 <;> cases x3 <;> (go_wp2; go_ret; exact ⟨by rw [← HX0.out, ← HX1.out, ← HX2.out, ← HX3.out]; rfl, HCH.out.below⟩)
end Go.Proofs.YtdpdbmdnmgaeiaaDoor.E
namespace Go.Proofs.YtdpdbmdnmgaeiaaDoor.E
open Go.RowKit Go.Proofs.YtdpdbmdnmgaeiaaDoor.P Go.Proofs.YtdpdbmdnmgaeiaaDoorW.PrintWords Go.Proofs.YtdpdbmdnmgaeiaaDoorW.PrintLast
structure CG (w : World) (g : Nat) (cs hs : Array Value) (W : World) : Prop where
  blk1 : W.heap[w.heap.size]? = some (.cells cs 25 (0, 0))
  blk2 : W.heap[g]? = some (.cells hs 46 (0, 0))
  below : Below w.heap.size w W
  glob : Glob W
theorem CG.start {w W : World} {cs hs : Array Value} (h : CI w cs W) : CG w W.heap.size cs hs (W.alloc (.cells hs 46)) := ⟨blk_alloc h.blk _, heap_alloc_new _ _, below_then h.below h.below.size (below_alloc (Below.refl _ _) _), h.glob.below (below_alloc (Below.refl _ _) _)⟩
theorem CG.step {w W W' : World} {g : Nat} {cs hs : Array Value} (h : CG w g cs hs W) (hb : Below W.heap.size W W') : CG w g cs hs W' := ⟨blk_below h.blk1 hb, blk_below h.blk2 hb, below_then h.below h.below.size hb, h.glob.below hb⟩
theorem okCmd_parts {k : Int} {rq wh sc mk : ByteArray} {pr am nu : Int} (hk : 1 ≤ k ∧ k ≤ 13) : okCmd k rq wh sc mk pr am nu =
    (((bif hasW k 0 then isPart isSign 12 rq else rq.toList == []) && (bif hasW k 1 then (isWho wh && (!(wh.toList == ([119, 111, 114, 108, 100] : List UInt8)) || decide (10 ≤ k))) else wh.toList == []) && (bif hasW k 2 then isPart isUp 6 sc else sc.toList == []) && (bif hasW k 3 then isMarket mk else mk.toList == [])) &&
    (bif hasW k 4 then (decide (1 ≤ pr) && decide (pr ≤ 1000000)) else pr == 0) && (bif hasW k 5 then (decide (1 ≤ am) && decide (am ≤ mostOf k)) else am == 0) && (bif hasW k 6 then decide (nu ≤ 4611686018427387904) else nu == 0)) := by
  have hsw : sWorld.toList = ([119, 111, 114, 108, 100] : List UInt8) := by rw [toList_data]; rfl
  have e1 : mayW k rq wh sc mk pr am nu 1 = (isWho wh && (!(wh.toList == ([119, 111, 114, 108, 100] : List UInt8)) || decide (10 ≤ k))) := by
    show (isWho wh && (!(wh.toList == sWorld.toList) || (decide (k ≥ 10) && decide (k ≤ 13)))) = _
    rw [hsw, decide_eq_true hk.2, Bool.and_true]
  have ei : ∀ i, okW k rq wh sc mk pr am nu i = bif hasW k i then mayW k rq wh sc mk pr am nu i else noneW rq wh sc mk pr am nu i := fun i => by unfold okW; cases hasW k i <;> rfl
  have er : (List.range 7).all (okW k rq wh sc mk pr am nu) = (okW k rq wh sc mk pr am nu 0 && (okW k rq wh sc mk pr am nu 1 && (okW k rq wh sc mk pr am nu 2 && (okW k rq wh sc mk pr am nu 3 && (okW k rq wh sc mk pr am nu 4 && (okW k rq wh sc mk pr am nu 5 && (okW k rq wh sc mk pr am nu 6 && true))))))) := rfl
  unfold okCmd
  rw [decide_eq_true hk.1, decide_eq_true hk.2, er, ei 0, ei 1, ei 2, ei 3, ei 4, ei 5, ei 6, e1]
  simp only [Bool.true_and, Bool.and_true, Bool.and_assoc]
  rfl
set_option maxHeartbeats 8000000 in
set_option maxRecDepth 100000 in
theorem cambistref20_Check.calls (a0_0 : Int) (a0_1 : ByteArray) (a0_2 : ByteArray) (a0_3 : ByteArray) (a0_4 : ByteArray) (a0_5 : Int) (a0_6 : Int) (a0_7 : Int) (r : Int) (w : World) (hG : Glob w) (h : cambistref20_Check.f a0_0 a0_1 a0_2 a0_3 a0_4 a0_5 a0_6 a0_7 = some r) :
    Calls Tryd.prog 16 #[.agg #[.int .i64 a0_0, .string a0_1, .string a0_2, .string a0_3, .string a0_4, .int .i64 a0_5, .int .i64 a0_6, .int .u64 a0_7]] w fun e w' => e = .returned (.int .i64 r) ∧ Below w.heap.size w w' := by
  unfold cambistref20_Check.f wire_Check.f at h
  split at h
  case isFalse => cases h
  rename_i hs
  have hr := Option.some.inj h
  clear h
  have HR := Lib.hid hr; clear hr
  have hci := CI.start (cs := #[.int .i64 a0_0, .string a0_1, .string a0_2, .string a0_3, .string a0_4, .int .i64 a0_5, .int .i64 a0_6, .int .u64 a0_7]) hG
  by_cases hk : 1 ≤ a0_0 ∧ a0_0 ≤ 13
  · have k1 : decide (a0_0 < 1) = false := decide_eq_false (by omega)
    have k2 : decide (a0_0 > 13) = false := decide_eq_false (by omega)
    have HOK : Hid (_ = _) := Lib.hid (okCmd_parts (rq := a0_1) (wh := a0_2) (sc := a0_3) (mk := a0_4) (pr := a0_5) (am := a0_6) (nu := a0_7) hk)
    obtain ⟨h0, hh0⟩ : ∃ b, hasW a0_0 0 = b := ⟨_, rfl⟩
    obtain ⟨h1, hh1⟩ : ∃ b, hasW a0_0 1 = b := ⟨_, rfl⟩
    obtain ⟨h2, hh2⟩ : ∃ b, hasW a0_0 2 = b := ⟨_, rfl⟩
    obtain ⟨h3, hh3⟩ : ∃ b, hasW a0_0 3 = b := ⟨_, rfl⟩
    obtain ⟨h4, hh4⟩ : ∃ b, hasW a0_0 4 = b := ⟨_, rfl⟩
    obtain ⟨h5, hh5⟩ : ∃ b, hasW a0_0 5 = b := ⟨_, rfl⟩
    obtain ⟨h6, hh6⟩ : ∃ b, hasW a0_0 6 = b := ⟨_, rfl⟩
    rw [hh0, hh1, hh2, hh3, hh4, hh5, hh6] at HOK
    have HH : Hid (∀ W, Calls Tryd.prog 24 #[.int .i64 a0_0] W fun e w' => e = .returned (.agg #[.bool h0, .bool h1, .bool h2, .bool h3, .bool h4, .bool h5, .bool h6]) ∧ Below W.heap.size W w') := Lib.hid fun W => (ref_has_calls a0_0 (by omega) W).mono (by rintro e w' ⟨rfl, hb⟩; exact ⟨by rw [← hh0, ← hh1, ← hh2, ← hh3, ← hh4, ← hh5, ← hh6]; rfl, hb⟩)
    obtain ⟨nm, hnm⟩ : ∃ b, ((bif h0 then isPart isSign 12 a0_1 else a0_1.toList == []) && (bif h1 then (isWho a0_2 && (!(a0_2.toList == ([119, 111, 114, 108, 100] : List UInt8)) || decide (10 ≤ a0_0))) else a0_2.toList == []) && (bif h2 then isPart isUp 6 a0_3 else a0_3.toList == []) && (bif h3 then isMarket a0_4 else a0_4.toList == [])) = b := ⟨_, rfl⟩
    have HN : Hid (∀ W, Glob W → Calls Tryd.prog 38 #[.agg #[.int .i64 a0_0, .string a0_1, .string a0_2, .string a0_3, .string a0_4, .int .i64 a0_5, .int .i64 a0_6, .int .u64 a0_7], .agg #[.bool h0, .bool h1, .bool h2, .bool h3, .bool h4, .bool h5, .bool h6]] W fun e w' => e = .returned (.bool nm) ∧ Below W.heap.size W w') := Lib.hid fun W hW => by rw [← hnm]; exact ref_names_calls a0_0 a0_1 a0_2 a0_3 a0_4 a0_5 a0_6 a0_7 h0 h1 h2 h3 h4 h5 h6 W hW hs
    rw [hnm] at HOK
    obtain ⟨mo, h_mo⟩ : ∃ b, mostOf a0_0 = b := ⟨_, rfl⟩
    obtain ⟨g5, h_g5⟩ : ∃ b, decide (1 ≤ a0_5) = b := ⟨_, rfl⟩
    obtain ⟨g6, h_g6⟩ : ∃ b, decide (1 ≤ a0_6) = b := ⟨_, rfl⟩
    obtain ⟨p5, h_p5⟩ : ∃ b, decide (a0_5 ≤ 1000000) = b := ⟨_, rfl⟩
    obtain ⟨p7, h_p7⟩ : ∃ b, decide (a0_7 ≤ 4611686018427387904) = b := ⟨_, rfl⟩
    rw [h_mo, h_g5, h_g6, h_p5, h_p7] at HOK
    obtain ⟨p6, h_p6⟩ : ∃ b, decide (a0_6 ≤ mo) = b := ⟨_, rfl⟩
    rw [h_p6] at HOK
    have Hmo := Lib.hid h_mo; have Hg5 := Lib.hid h_g5; have Hg6 := Lib.hid h_g6; have Hp5 := Lib.hid h_p5; have Hp6 := Lib.hid h_p6; have Hp7 := Lib.hid h_p7
    clear hnm hs hk hG h_mo h_g5 h_g6 h_p5 h_p6 h_p7 hh0 hh1 hh2 hh3 hh4 hh5 hh6
    go_enter Tryd.func16, Tryd.ntmps16
    go_upto_if 25 with (first | (go_at_call 24; refine (HH.out _).mono ?_; rintro e w1 ⟨rfl, hb⟩; replace hci := hci.step hb; clear hb; have hcg := CG.start (hs := #[.bool h0, .bool h1, .bool h2, .bool h3, .bool h4, .bool h5, .bool h6]) hci; clear hci; have c0 := blk_cell hcg.blk1 0; have c1 := blk_cell hcg.blk1 1; have c2 := blk_cell hcg.blk1 2; have c3 := blk_cell hcg.blk1 3; have c4 := blk_cell hcg.blk1 4; have c5 := blk_cell hcg.blk1 5; have c6 := blk_cell hcg.blk1 6; have c7 := blk_cell hcg.blk1 7; have e0 := blk_cell hcg.blk2 0; have e1 := blk_cell hcg.blk2 1; have e2 := blk_cell hcg.blk2 2; have e3 := blk_cell hcg.blk2 3; have e4 := blk_cell hcg.blk2 4; have e5 := blk_cell hcg.blk2 5; have e6 := blk_cell hcg.blk2 6; simp only [List.getElem?_toArray, List.getElem?_cons_zero, List.getElem?_cons_succ] at c0 c1 c2 c3 c4 c5 c6 c7 e0 e1 e2 e3 e4 e5 e6) | (go_at_call 38; refine (HN.out _ hcg.glob).mono ?_; rintro e w2 ⟨rfl, hb⟩; replace hcg := hcg.step hb; clear hb; have c0 := blk_cell hcg.blk1 0; have c1 := blk_cell hcg.blk1 1; have c2 := blk_cell hcg.blk1 2; have c3 := blk_cell hcg.blk1 3; have c4 := blk_cell hcg.blk1 4; have c5 := blk_cell hcg.blk1 5; have c6 := blk_cell hcg.blk1 6; have c7 := blk_cell hcg.blk1 7; have e0 := blk_cell hcg.blk2 0; have e1 := blk_cell hcg.blk2 1; have e2 := blk_cell hcg.blk2 2; have e3 := blk_cell hcg.blk2 3; have e4 := blk_cell hcg.blk2 4; have e5 := blk_cell hcg.blk2 5; have e6 := blk_cell hcg.blk2 6; simp only [List.getElem?_toArray, List.getElem?_cons_zero, List.getElem?_cons_succ] at c0 c1 c2 c3 c4 c5 c6 c7 e0 e1 e2 e3 e4 e5 e6))
    have HCG := Lib.hid hcg; clear hcg HH HN k1 k2
    clear c0 c1 c2 c3 c4 c5 c6 c7 e0 e1 e2 e3 e4 e5 e6
    go_cut [5] (fun v5 wc => v5 = .int .i64 mo ∧ Hid (CG w w1.heap.size #[.int .i64 a0_0, .string a0_1, .string a0_2, .string a0_3, .string a0_4, .int .i64 a0_5, .int .i64 a0_6, .int .u64 a0_7] #[.bool h0, .bool h1, .bool h2, .bool h3, .bool h4, .bool h5, .bool h6] wc))
    case first =>
      by_cases k3 : a0_0 ≤ 2
      · have k3' : decide (a0_0 ≤ 2) = true := decide_eq_true k3
        have HE : Hid (1099511627776 = mo) := Lib.hid (by rw [← Hmo.out]; exact (if_pos k3).symm)
        clear k3
        rw [k3']
        go_wp2
        go_meet
        case rel => exact ⟨by rw [← HE.out], HCG⟩
      · have k3' : decide (a0_0 ≤ 2) = false := decide_eq_false k3
        have HE : Hid (1000000 = mo) := Lib.hid (by rw [← Hmo.out]; exact (if_neg k3).symm)
        clear k3
        rw [k3']
        go_wp2
        go_meet
        case rel => exact ⟨by rw [← HE.out], HCG⟩
    case rest =>
      clear HCG
      obtain ⟨rfl, HCG⟩ := hcut
      go_upto_region 8 with (fail)
      go_cut [6] (fun v6 wc => ∃ x : Bool, v6 = .bool x ∧ Hid (x = (bif h4 then (g5 && p5) else a0_5 == 0)) ∧ Hid (CG w w1.heap.size #[.int .i64 a0_0, .string a0_1, .string a0_2, .string a0_3, .string a0_4, .int .i64 a0_5, .int .i64 a0_6, .int .u64 a0_7] #[.bool h0, .bool h1, .bool h2, .bool h3, .bool h4, .bool h5, .bool h6] wc))
      case first =>
        have hcg := HCG.out; have hg5 := Hg5.out; have hg6 := Hg6.out; have hp5 := Hp5.out; have hp6 := Hp6.out; have hp7 := Hp7.out
        have c0 := blk_cell hcg.blk1 0; have c1 := blk_cell hcg.blk1 1; have c2 := blk_cell hcg.blk1 2; have c3 := blk_cell hcg.blk1 3; have c4 := blk_cell hcg.blk1 4; have c5 := blk_cell hcg.blk1 5; have c6 := blk_cell hcg.blk1 6; have c7 := blk_cell hcg.blk1 7; have e0 := blk_cell hcg.blk2 0; have e1 := blk_cell hcg.blk2 1; have e2 := blk_cell hcg.blk2 2; have e3 := blk_cell hcg.blk2 3; have e4 := blk_cell hcg.blk2 4; have e5 := blk_cell hcg.blk2 5; have e6 := blk_cell hcg.blk2 6; simp only [List.getElem?_toArray, List.getElem?_cons_zero, List.getElem?_cons_succ] at c0 c1 c2 c3 c4 c5 c6 c7 e0 e1 e2 e3 e4 e5 e6
        clear hcg Hmo Hg5 Hg6 Hp5 Hp6 Hp7 HOK
        cases h4 <;> cases g5 <;> cases p5 <;> (go_wp2; go_meet; (case rel => exact ⟨_, rfl, Lib.hid (by first | rfl | (simp; done)), HCG⟩))
      case rest =>
        clear HCG
        obtain ⟨x0, rfl, HX0, HCG⟩ := hcut
        go_upto_region 9 with (fail)
        go_cut [7] (fun v7 wc => ∃ x : Bool, v7 = .bool x ∧ Hid (x = (bif h5 then (g6 && p6) else a0_6 == 0)) ∧ Hid (CG w w1.heap.size #[.int .i64 a0_0, .string a0_1, .string a0_2, .string a0_3, .string a0_4, .int .i64 a0_5, .int .i64 a0_6, .int .u64 a0_7] #[.bool h0, .bool h1, .bool h2, .bool h3, .bool h4, .bool h5, .bool h6] wc))
        case first =>
          have hcg := HCG.out; have hg5 := Hg5.out; have hg6 := Hg6.out; have hp5 := Hp5.out; have hp6 := Hp6.out; have hp7 := Hp7.out
          have c0 := blk_cell hcg.blk1 0; have c1 := blk_cell hcg.blk1 1; have c2 := blk_cell hcg.blk1 2; have c3 := blk_cell hcg.blk1 3; have c4 := blk_cell hcg.blk1 4; have c5 := blk_cell hcg.blk1 5; have c6 := blk_cell hcg.blk1 6; have c7 := blk_cell hcg.blk1 7; have e0 := blk_cell hcg.blk2 0; have e1 := blk_cell hcg.blk2 1; have e2 := blk_cell hcg.blk2 2; have e3 := blk_cell hcg.blk2 3; have e4 := blk_cell hcg.blk2 4; have e5 := blk_cell hcg.blk2 5; have e6 := blk_cell hcg.blk2 6; simp only [List.getElem?_toArray, List.getElem?_cons_zero, List.getElem?_cons_succ] at c0 c1 c2 c3 c4 c5 c6 c7 e0 e1 e2 e3 e4 e5 e6
          clear hcg Hmo Hg5 Hg6 Hp5 Hp6 Hp7 HOK
          cases h5 <;> cases g6 <;> cases p6 <;> (go_wp2; go_meet; (case rel => exact ⟨_, rfl, Lib.hid (by first | rfl | (simp; done)), HCG⟩))
        case rest =>
          clear HCG
          obtain ⟨x1, rfl, HX1, HCG⟩ := hcut
          go_upto_region 10 with (fail)
          go_cut [8] (fun v8 wc => ∃ x : Bool, v8 = .bool x ∧ Hid (x = (bif h6 then p7 else a0_7 == 0)) ∧ Hid (CG w w1.heap.size #[.int .i64 a0_0, .string a0_1, .string a0_2, .string a0_3, .string a0_4, .int .i64 a0_5, .int .i64 a0_6, .int .u64 a0_7] #[.bool h0, .bool h1, .bool h2, .bool h3, .bool h4, .bool h5, .bool h6] wc))
          case first =>
            have hcg := HCG.out; have hg5 := Hg5.out; have hg6 := Hg6.out; have hp5 := Hp5.out; have hp6 := Hp6.out; have hp7 := Hp7.out
            have c0 := blk_cell hcg.blk1 0; have c1 := blk_cell hcg.blk1 1; have c2 := blk_cell hcg.blk1 2; have c3 := blk_cell hcg.blk1 3; have c4 := blk_cell hcg.blk1 4; have c5 := blk_cell hcg.blk1 5; have c6 := blk_cell hcg.blk1 6; have c7 := blk_cell hcg.blk1 7; have e0 := blk_cell hcg.blk2 0; have e1 := blk_cell hcg.blk2 1; have e2 := blk_cell hcg.blk2 2; have e3 := blk_cell hcg.blk2 3; have e4 := blk_cell hcg.blk2 4; have e5 := blk_cell hcg.blk2 5; have e6 := blk_cell hcg.blk2 6; simp only [List.getElem?_toArray, List.getElem?_cons_zero, List.getElem?_cons_succ] at c0 c1 c2 c3 c4 c5 c6 c7 e0 e1 e2 e3 e4 e5 e6
            clear hcg Hmo Hg5 Hg6 Hp5 Hp6 Hp7 HOK
            cases h6 <;> cases p7 <;> (go_wp2; go_meet; (case rel => exact ⟨_, rfl, Lib.hid (by first | rfl | (simp; done)), HCG⟩))
          case rest =>
            clear HCG
            obtain ⟨x2, rfl, HX2, HCG⟩ := hcut
            have HF : Hid (okCmd a0_0 a0_1 a0_2 a0_3 a0_4 a0_5 a0_6 a0_7 = (nm && x0 && x1 && x2)) := Lib.hid (by rw [HOK.out, HX0.out, HX1.out, HX2.out])
            clear HX0 HX1 HX2 Hmo Hg5 Hg6 Hp5 Hp6 Hp7 HOK
            cases nm <;> cases x0 <;> cases x1 <;> cases x2 <;> (go_wp2; go_ret; exact ⟨by rw [← HR.out, HF.out]; rfl, HCG.out.below⟩)
  · have HF : Hid (okCmd a0_0 a0_1 a0_2 a0_3 a0_4 a0_5 a0_6 a0_7 = false) := Lib.hid (by
      unfold okCmd
      by_cases h1 : 1 ≤ a0_0
      · rw [decide_eq_false (show ¬ a0_0 ≤ 13 by omega)]; simp
      · rw [decide_eq_false h1]; simp)
    by_cases k1 : a0_0 < 1
    · have k1' : decide (a0_0 < 1) = true := decide_eq_true k1
      clear k1 hk hG hs
      go_enter Tryd.func16, Tryd.ntmps16
      go_wp2
      go_ret
      refine ⟨?_, hci.below⟩
      rw [← HR.out, HF.out]
      rfl
    · have k1' : decide (a0_0 < 1) = false := decide_eq_false k1
      have k2' : decide (a0_0 > 13) = true := decide_eq_true (by omega)
      clear k1 hk hG hs
      go_enter Tryd.func16, Tryd.ntmps16
      go_wp2
      go_ret
      refine ⟨?_, hci.below⟩
      rw [← HR.out, HF.out]
      rfl
end Go.Proofs.YtdpdbmdnmgaeiaaDoor.E
