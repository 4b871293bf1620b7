/- Awake: the calls at the head of all laws of this layer answer as the document fixes. What the laws' walks of this layer use: calls beside a boxed command; which texts are few. -/
import Derived.Test.YtdpdbmdnmgaeiaaDoorDecode
import Derived.Test.YtdpdbmdnmgaeiaaDoorDecPure
import Derived.Test.YtdpdbmdnmgaeiaaDoorWEqStruct
import Derived.Test.YtdpdbmdnmgaeiaaDoorPx4
import Derived.Test.YtdpdbmdnmgaeiaaDoorPx1
import Derived.Lib.SlBytesConst
namespace Go.Proofs.YtdpdbmdnmgaeiaaDoor.E
open Go.RowKit Go.Proofs.YtdpdbmdnmgaeiaaDoor.P Go.Proofs.YtdpdbmdnmgaeiaaDoorW.PrintWords Go.Proofs.YtdpdbmdnmgaeiaaDoorW.PrintLast
theorem eqCmd (d : Nat) (w : World) (x0 y0 : Int) (x1 y1 : ByteArray) (x2 y2 : ByteArray) (x3 y3 : ByteArray) (x4 y4 : ByteArray) (x5 y5 : Int) (x6 y6 : Int) (x7 y7 : Int) :
    (Op.equalIn (d + 2) 25 (.agg #[.int .i64 x0, .string x1, .string x2, .string x3, .string x4, .int .i64 x5, .int .i64 x6, .int .u64 x7]) (.agg #[.int .i64 y0, .string y1, .string y2, .string y3, .string y4, .int .i64 y5, .int .i64 y6, .int .u64 y7])).run Tryd.prog w = .ok (x0 == y0 && (x1.toList == y1.toList && (x2.toList == y2.toList && (x3.toList == y3.toList && (x4.toList == y4.toList && (x5 == y5 && (x6 == y6 && (x7 == y7)))))))) w := by
  refine eqA_of Tryd.underlying25 (by kernel_rfl) ?_
  refine eqf_cons (by rfl) (by go_simp; rfl) (by go_simp; rfl) (by go_simp) ?_
  refine eqf_cons (by rfl) (by go_simp; rfl) (by go_simp; rfl) (by go_simp) ?_
  refine eqf_cons (by rfl) (by go_simp; rfl) (by go_simp; rfl) (by go_simp) ?_
  refine eqf_cons (by rfl) (by go_simp; rfl) (by go_simp; rfl) (by go_simp) ?_
  refine eqf_cons (by rfl) (by go_simp; rfl) (by go_simp; rfl) (by go_simp) ?_
  refine eqf_cons (by rfl) (by go_simp; rfl) (by go_simp; rfl) (by go_simp) ?_
  refine eqf_cons (by rfl) (by go_simp; rfl) (by go_simp; rfl) (by go_simp) ?_
  exact eqf_last (by rfl) (by go_simp; rfl) (by go_simp; rfl) (by go_simp)
theorem lit_C (W : World) (e : TypeId) (xs : List Int) (hm : xs.length ≤ 9223372036854775807) (fr : Nat × Nat) : Kd.C (Kd.int .u8) (W.alloc (.cells (xs.map (Value.int .u8)).toArray e fr)) (some ⟨W.heap.size, 0, none⟩) xs.length xs :=
  Kd.C_of_reads (enc := Value.int .u8) (d := (0 : Int)) (h1 := fun _ => rfl) ⟨rfl, hm, fun _ => ⟨_, rfl, fun j hj => by
    rw [add_plain, cell_of_row _ _ j _ _ _ (heap_alloc_new _ _)]
    simp [List.getD_eq_getElem?_getD, hj]⟩⟩
theorem dec_at {x : ByteArray} {c : Cmd} {r : Int} (h : decS x = (c, r)) (hx : x.size ≤ 1000000) {W : World} (hG : Glob W) {A : Option Addr} {cap : Nat} (hC : Kd.C (Kd.int .u8) W A (bytesOf x).length (bytesOf x)) {cs : Array Value} (hcs : c.cs = cs) :
    Calls Tryd.prog 13 #[.slice A (bytesOf x).length cap] W fun e w' => e = .returned (.tuple #[.agg cs, .int .i64 r]) ∧ Below W.heap.size W w' := by
  subst hcs
  have := wire_Decode.calls A cap (bytesOf x) W hG hC (by rw [bytesOf_length]; exact hx)
  rw [str_bytes, h] at this
  exact this
theorem dec_200 {x : ByteArray} (h : (decS x).2 = 200) : decS x = (Cmd.zero, 200) := by
  rcases dec_ok x with h1 | h1
  · rw [h1.1] at h
    exact absurd h (by decide)
  · exact Prod.ext h1.2 h
theorem dec_1 : decS ⟨#[98, 117, 121, 32, 82, 49, 32, 97, 110, 110, 32, 88, 89, 90, 45, 85, 83, 68, 32, 50, 48, 32, 53]⟩ = (⟨4, ⟨#[82, 49]⟩, ⟨#[97, 110, 110]⟩, ⟨#[]⟩, ⟨#[88, 89, 90, 45, 85, 83, 68]⟩, 20, 5, 0⟩, 0) := by
  have h := dec_enc (k := 4) (rq := ⟨#[82, 49]⟩) (wh := ⟨#[97, 110, 110]⟩) (sc := ⟨#[]⟩) (mk := ⟨#[88, 89, 90, 45, 85, 83, 68]⟩) (pr := 20) (am := 5) (nu := 0) (by decide +kernel) (by decide)
  have e : encB 4 ⟨#[82, 49]⟩ ⟨#[97, 110, 110]⟩ ⟨#[]⟩ ⟨#[88, 89, 90, 45, 85, 83, 68]⟩ 20 5 0 = ⟨#[98, 117, 121, 32, 82, 49, 32, 97, 110, 110, 32, 88, 89, 90, 45, 85, 83, 68, 32, 50, 48, 32, 53]⟩ := by decide +kernel
  rw [e] at h
  exact h
theorem dec_2 : decS ⟨#[100, 97, 121, 32]⟩ = (Cmd.zero, 200) := dec_200 (by decide +kernel)
theorem dec_3 : decS ⟨#[100, 101, 112, 111, 115, 105, 116, 32, 82, 32, 97, 110, 110, 32, 85, 83, 68, 32, 48, 53]⟩ = (Cmd.zero, 200) := dec_200 (by decide +kernel)
theorem enc_4 : okCmd 11 ⟨#[]⟩ ⟨#[97, 110, 110]⟩ ⟨#[85, 83, 68]⟩ ⟨#[]⟩ 0 0 3 = true ∧ encB 11 ⟨#[]⟩ ⟨#[97, 110, 110]⟩ ⟨#[85, 83, 68]⟩ ⟨#[]⟩ 0 0 3 = ⟨#[115, 108, 105, 112, 32, 97, 110, 110, 32, 85, 83, 68, 32, 51]⟩ := by decide +kernel
theorem chk_1 : okCmd 4 ⟨#[82, 49]⟩ ⟨#[97, 110, 110]⟩ ⟨#[]⟩ ⟨#[88, 89, 90, 45, 85, 83, 68]⟩ 20 5 0 = true := by decide +kernel
set_option maxHeartbeats 16000000 in
set_option maxRecDepth 100000 in
theorem awake_calls (w : World) (hG : Glob w) : Calls Tryd.prog 9 #[] w fun e w' => e = .returned (.bool true) ∧ Below w.heap.size w w' := by
  have kc := fun (w : World) (C : Array Value) (n c : Nat) => Lib.run_convert_bytes_const (P := Tryd.prog) w 26 5 C n c Tryd.underlying26 Tryd.underlying5
  have HG := Lib.hid hG
  clear hG
  go_enter Tryd.func9, Tryd.ntmps9
  go_upto_region 1 with (fail)
  go_cut [1, 2] (fun v1 v2 wc => ∃ g, v1 = .pointer (some ⟨g, 0, none⟩) ∧ v2 = .int .i64 0 ∧ Hid (wc.heap[g]? = some (.cells #[.int .i64 4, .string ⟨#[82, 49]⟩, .string ⟨#[97, 110, 110]⟩, .string ⟨#[]⟩, .string ⟨#[88, 89, 90, 45, 85, 83, 68]⟩, .int .i64 20, .int .i64 5, .int .u64 0] 25 (0, 0))) ∧ Hid (Below w.heap.size w wc))
  case first =>
    have HCC : ∀ fr, Hid (Kd.C (Kd.int .u8) (w.alloc (.cells #[.int .u8 98, .int .u8 117, .int .u8 121, .int .u8 32, .int .u8 82, .int .u8 49, .int .u8 32, .int .u8 97, .int .u8 110, .int .u8 110, .int .u8 32, .int .u8 88, .int .u8 89, .int .u8 90, .int .u8 45, .int .u8 85, .int .u8 83, .int .u8 68, .int .u8 32, .int .u8 50, .int .u8 48, .int .u8 32, .int .u8 53] 5 fr)) (some ⟨w.heap.size, 0, none⟩) (bytesOf ⟨#[98, 117, 121, 32, 82, 49, 32, 97, 110, 110, 32, 88, 89, 90, 45, 85, 83, 68, 32, 50, 48, 32, 53]⟩).length (bytesOf ⟨#[98, 117, 121, 32, 82, 49, 32, 97, 110, 110, 32, 88, 89, 90, 45, 85, 83, 68, 32, 50, 48, 32, 53]⟩)) := fun fr => Lib.hid (lit_C w 5 (bytesOf ⟨#[98, 117, 121, 32, 82, 49, 32, 97, 110, 110, 32, 88, 89, 90, 45, 85, 83, 68, 32, 50, 48, 32, 53]⟩) (by decide) fr)
    have HBA : ∀ o, Hid (Below w.heap.size w (w.alloc o)) := fun o => Lib.hid (below_alloc (Below.refl _ _) o)
    go_wp2_with (go_at_call 13; refine (dec_at (x := ⟨#[98, 117, 121, 32, 82, 49, 32, 97, 110, 110, 32, 88, 89, 90, 45, 85, 83, 68, 32, 50, 48, 32, 53]⟩) dec_1 (by decide) (HG.out.below (HBA _).out) (HCC _).out (cs := #[.int .i64 4, .string ⟨#[82, 49]⟩, .string ⟨#[97, 110, 110]⟩, .string ⟨#[]⟩, .string ⟨#[88, 89, 90, 45, 85, 83, 68]⟩, .int .i64 20, .int .i64 5, .int .u64 0]) rfl).mono ?_; rintro e w2 ⟨rfl, hb⟩; have HB2 := Lib.hid (below_then (HBA _).out (HBA _).out.size hb); clear hb HCC)
    go_meet
    case rel => exact ⟨w2.heap.size, rfl, rfl, Lib.hid (heap_alloc_new _ _), Lib.hid (below_alloc HB2.out _)⟩
  case rest =>
    obtain ⟨g, rfl, rfl, HK, HB⟩ := hcut
    go_upto_region 2 with (fail)
    go_cut [3, 4] (fun v1 v2 wc => v2 = .int .i64 200 ∧ Hid (wc.heap[g]? = some (.cells #[.int .i64 4, .string ⟨#[82, 49]⟩, .string ⟨#[97, 110, 110]⟩, .string ⟨#[]⟩, .string ⟨#[88, 89, 90, 45, 85, 83, 68]⟩, .int .i64 20, .int .i64 5, .int .u64 0] 25 (0, 0))) ∧ Hid (Below w.heap.size w wc))
    case first =>
      have HCC : ∀ fr, Hid (Kd.C (Kd.int .u8) (wc.alloc (.cells #[.int .u8 100, .int .u8 97, .int .u8 121, .int .u8 32] 5 fr)) (some ⟨wc.heap.size, 0, none⟩) (bytesOf ⟨#[100, 97, 121, 32]⟩).length (bytesOf ⟨#[100, 97, 121, 32]⟩)) := fun fr => Lib.hid (lit_C wc 5 (bytesOf ⟨#[100, 97, 121, 32]⟩) (by decide) fr)
      have HBA := fun o => Lib.hid (below_alloc HB.out o)
      have HKA := fun o => Lib.hid (blk_alloc HK.out o)
      go_wp2_with (go_at_call 13; refine (dec_at (x := ⟨#[100, 97, 121, 32]⟩) dec_2 (by decide) (HG.out.below (HBA _).out) (HCC _).out (cs := #[.int .i64 0, .string ⟨#[]⟩, .string ⟨#[]⟩, .string ⟨#[]⟩, .string ⟨#[]⟩, .int .i64 0, .int .i64 0, .int .u64 0]) rfl).mono ?_; rintro e w2 ⟨rfl, hb⟩; have HB2 := Lib.hid (below_then (HBA _).out (HBA _).out.size hb); have HK2 := Lib.hid (blk_below (HKA _).out hb); clear hb HCC)
      go_meet
      case rel => exact ⟨rfl, Lib.hid (blk_alloc HK2.out _), Lib.hid (below_alloc HB2.out _)⟩
    case rest =>
      clear HK HB
      obtain ⟨rfl, HK, HB⟩ := hcut
      go_upto_region 3 with (fail)
      go_cut [5, 6] (fun v1 v2 wc => v2 = .int .i64 200 ∧ Hid (wc.heap[g]? = some (.cells #[.int .i64 4, .string ⟨#[82, 49]⟩, .string ⟨#[97, 110, 110]⟩, .string ⟨#[]⟩, .string ⟨#[88, 89, 90, 45, 85, 83, 68]⟩, .int .i64 20, .int .i64 5, .int .u64 0] 25 (0, 0))) ∧ Hid (Below w.heap.size w wc))
      case first =>
        have HCC : ∀ fr, Hid (Kd.C (Kd.int .u8) (wc.alloc (.cells #[.int .u8 100, .int .u8 101, .int .u8 112, .int .u8 111, .int .u8 115, .int .u8 105, .int .u8 116, .int .u8 32, .int .u8 82, .int .u8 32, .int .u8 97, .int .u8 110, .int .u8 110, .int .u8 32, .int .u8 85, .int .u8 83, .int .u8 68, .int .u8 32, .int .u8 48, .int .u8 53] 5 fr)) (some ⟨wc.heap.size, 0, none⟩) (bytesOf ⟨#[100, 101, 112, 111, 115, 105, 116, 32, 82, 32, 97, 110, 110, 32, 85, 83, 68, 32, 48, 53]⟩).length (bytesOf ⟨#[100, 101, 112, 111, 115, 105, 116, 32, 82, 32, 97, 110, 110, 32, 85, 83, 68, 32, 48, 53]⟩)) := fun fr => Lib.hid (lit_C wc 5 (bytesOf ⟨#[100, 101, 112, 111, 115, 105, 116, 32, 82, 32, 97, 110, 110, 32, 85, 83, 68, 32, 48, 53]⟩) (by decide) fr)
        have HBA := fun o => Lib.hid (below_alloc HB.out o)
        have HKA := fun o => Lib.hid (blk_alloc HK.out o)
        go_wp2_with (go_at_call 13; refine (dec_at (x := ⟨#[100, 101, 112, 111, 115, 105, 116, 32, 82, 32, 97, 110, 110, 32, 85, 83, 68, 32, 48, 53]⟩) dec_3 (by decide) (HG.out.below (HBA _).out) (HCC _).out (cs := #[.int .i64 0, .string ⟨#[]⟩, .string ⟨#[]⟩, .string ⟨#[]⟩, .string ⟨#[]⟩, .int .i64 0, .int .i64 0, .int .u64 0]) rfl).mono ?_; rintro e w2 ⟨rfl, hb⟩; have HB2 := Lib.hid (below_then (HBA _).out (HBA _).out.size hb); have HK2 := Lib.hid (blk_below (HKA _).out hb); clear hb HCC)
        go_meet
        case rel => exact ⟨rfl, Lib.hid (blk_alloc HK2.out _), Lib.hid (below_alloc HB2.out _)⟩
      case rest =>
        clear HK HB
        obtain ⟨rfl, HK, HB⟩ := hcut
        go_upto_region 4 with (fail)
        go_cut [7, 8] (fun v7 v8 wc => ∃ (A : Option Addr) (c : Nat), v7 = .slice A (bytesOf ⟨#[115, 108, 105, 112, 32, 97, 110, 110, 32, 85, 83, 68, 32, 51]⟩).length c ∧ v8 = .int .i64 0 ∧ Hid (Kd.C (Kd.int .u8) wc A (bytesOf ⟨#[115, 108, 105, 112, 32, 97, 110, 110, 32, 85, 83, 68, 32, 51]⟩).length (bytesOf ⟨#[115, 108, 105, 112, 32, 97, 110, 110, 32, 85, 83, 68, 32, 51]⟩)) ∧ Hid (wc.heap[g]? = some (.cells #[.int .i64 4, .string ⟨#[82, 49]⟩, .string ⟨#[97, 110, 110]⟩, .string ⟨#[]⟩, .string ⟨#[88, 89, 90, 45, 85, 83, 68]⟩, .int .i64 20, .int .i64 5, .int .u64 0] 25 (0, 0))) ∧ Hid (Below w.heap.size w wc))
        case first =>
          have HE : Hid (∀ W, Glob W → Calls Tryd.prog 11 #[.agg #[.int .i64 11, .string ⟨#[]⟩, .string ⟨#[97, 110, 110]⟩, .string ⟨#[85, 83, 68]⟩, .string ⟨#[]⟩, .int .i64 0, .int .i64 0, .int .u64 3]] W (EncRet W ⟨#[115, 108, 105, 112, 32, 97, 110, 110, 32, 85, 83, 68, 32, 51]⟩ 0)) := Lib.hid fun W hW => by
            have h := wire_Encode.calls 11 ⟨#[]⟩ ⟨#[97, 110, 110]⟩ ⟨#[85, 83, 68]⟩ ⟨#[]⟩ 0 0 3 W hW (by decide) (by decide)
            rw [enc_4.1, enc_4.2] at h
            exact h
          go_wp2_with (go_at_call 11; refine (HE.out _ (HG.out.below HB.out)).mono ?_; rintro e w2 ⟨A, c, rfl, hc, hC, hb⟩; have HC := Lib.hid hC; have HB2 := Lib.hid (below_then HB.out HB.out.size hb); have HK2 := Lib.hid (blk_below HK.out hb); clear hc hC hb)
          go_meet
          case rel => exact ⟨A, c, rfl, rfl, HC, HK2, HB2⟩
        case rest =>
          clear HK HB
          obtain ⟨A, c, rfl, rfl, HC, HK, HB⟩ := hcut
          have hcv := Kd.C_string (P := Tryd.prog) (c := c) Tryd.underlying26 Tryd.underlying5 Tryd.underlying9 HC.out
          rw [str_bytes] at hcv
          have HQ1 : Hid (∀ W, Glob W → Calls Tryd.prog 17 #[.agg #[.int .i64 10, .string ⟨#[]⟩, .string ⟨#[]⟩, .string ⟨#[]⟩, .string ⟨#[]⟩, .int .i64 0, .int .i64 0, .int .u64 0]] W fun e w' => e = .returned (.bool true) ∧ Below W.heap.size W w') := Lib.hid fun W hW => wire_Asks.calls _ _ _ _ _ _ _ _ true W hW rfl
          have HQ2 : Hid (∀ W, Glob W → Calls Tryd.prog 17 #[.agg #[.int .i64 4, .string ⟨#[82, 49]⟩, .string ⟨#[97, 110, 110]⟩, .string ⟨#[]⟩, .string ⟨#[88, 89, 90, 45, 85, 83, 68]⟩, .int .i64 20, .int .i64 5, .int .u64 0]] W fun e w' => e = .returned (.bool false) ∧ Below W.heap.size W w') := Lib.hid fun W hW => wire_Asks.calls _ _ _ _ _ _ _ _ false W hW rfl
          have HQ3 : Hid (∀ W, Glob W → Calls Tryd.prog 15 #[.agg #[.int .i64 4, .string ⟨#[82, 49]⟩, .string ⟨#[97, 110, 110]⟩, .string ⟨#[]⟩, .string ⟨#[88, 89, 90, 45, 85, 83, 68]⟩, .int .i64 20, .int .i64 5, .int .u64 0]] W fun e w' => e = .returned (.int .i64 0) ∧ Below W.heap.size W w') := Lib.hid fun W hW => wire_Check.calls 4 ⟨#[82, 49]⟩ ⟨#[97, 110, 110]⟩ ⟨#[]⟩ ⟨#[88, 89, 90, 45, 85, 83, 68]⟩ 20 5 0 0 W hW (by unfold wire_Check.f; rw [if_pos (by decide), chk_1]; rfl)
          have c0 := blk_cell HK.out 0; have c1 := blk_cell HK.out 1; have c2 := blk_cell HK.out 2; have c3 := blk_cell HK.out 3; have c4 := blk_cell HK.out 4; have c5 := blk_cell HK.out 5; have c6 := blk_cell HK.out 6; have c7 := blk_cell HK.out 7; simp only [List.getElem?_toArray, List.getElem?_cons_zero, List.getElem?_cons_succ] at c0 c1 c2 c3 c4 c5 c6 c7
          go_wp2_with (first | ((go_at_call 17); (with_reducible refine (HQ1.out _ (HG.out.below HB.out)).mono ?_); rintro e w2 ⟨rfl, hb⟩; have HB2 := Lib.hid (below_then HB.out HB.out.size hb); have HK2 := Lib.hid (blk_below HK.out hb); clear hb HB HK; have HB := HB2; have HK := HK2; clear HB2 HK2; have c0 := blk_cell HK.out 0; have c1 := blk_cell HK.out 1; have c2 := blk_cell HK.out 2; have c3 := blk_cell HK.out 3; have c4 := blk_cell HK.out 4; have c5 := blk_cell HK.out 5; have c6 := blk_cell HK.out 6; have c7 := blk_cell HK.out 7; simp only [List.getElem?_toArray, List.getElem?_cons_zero, List.getElem?_cons_succ] at c0 c1 c2 c3 c4 c5 c6 c7) | ((go_at_call 17); (with_reducible refine (HQ2.out _ (HG.out.below HB.out)).mono ?_); rintro e w2 ⟨rfl, hb⟩; have HB2 := Lib.hid (below_then HB.out HB.out.size hb); have HK2 := Lib.hid (blk_below HK.out hb); clear hb HB HK; have HB := HB2; have HK := HK2; clear HB2 HK2; have c0 := blk_cell HK.out 0; have c1 := blk_cell HK.out 1; have c2 := blk_cell HK.out 2; have c3 := blk_cell HK.out 3; have c4 := blk_cell HK.out 4; have c5 := blk_cell HK.out 5; have c6 := blk_cell HK.out 6; have c7 := blk_cell HK.out 7; simp only [List.getElem?_toArray, List.getElem?_cons_zero, List.getElem?_cons_succ] at c0 c1 c2 c3 c4 c5 c6 c7) | ((go_at_call 15); (with_reducible refine (HQ3.out _ (HG.out.below HB.out)).mono ?_); rintro e w2 ⟨rfl, hb⟩; have HB2 := Lib.hid (below_then HB.out HB.out.size hb); have HK2 := Lib.hid (blk_below HK.out hb); clear hb HB HK; have HB := HB2; have HK := HK2; clear HB2 HK2; have c0 := blk_cell HK.out 0; have c1 := blk_cell HK.out 1; have c2 := blk_cell HK.out 2; have c3 := blk_cell HK.out 3; have c4 := blk_cell HK.out 4; have c5 := blk_cell HK.out 5; have c6 := blk_cell HK.out 6; have c7 := blk_cell HK.out 7; simp only [List.getElem?_toArray, List.getElem?_cons_zero, List.getElem?_cons_succ] at c0 c1 c2 c3 c4 c5 c6 c7))
          go_ret
          exact ⟨rfl, HB.out⟩
end Go.Proofs.YtdpdbmdnmgaeiaaDoor.E
namespace Go.Proofs.YtdpdbmdnmgaeiaaDoor.E
open Go.RowKit Go.Proofs.YtdpdbmdnmgaeiaaDoor.P Go.Proofs.YtdpdbmdnmgaeiaaDoorW.PrintWords Go.Proofs.YtdpdbmdnmgaeiaaDoorW.PrintLast
section
variable {w W : World} {cs : Array Value} {post : Ending → World → Prop} {args : Array Value}
theorem call_ci {fn : FuncId} {v : Value} (hQ : ∀ W, Glob W → Calls Tryd.prog fn args W fun e w' => e = .returned v ∧ Below W.heap.size W w') (hc : CI w cs W) (h : ∀ w', CI w cs w' → post (.returned v) w') : Calls Tryd.prog fn args W post :=
  (hQ W hc.glob).mono (by rintro e w' ⟨rfl, hb⟩; exact h w' (hc.step hb))
theorem call_enc {E : ByteArray} {er : Int} (hE : ∀ W, Glob W → Calls Tryd.prog 11 args W (EncRet W E er)) (hc : CI w cs W)
    (h : ∀ (A : Option Addr) (c : Nat) (w' : World), CI w cs w' → Kd.C (Kd.int .u8) w' A (bytesOf E).length (bytesOf E) → post (.returned (.tuple #[.slice A (bytesOf E).length c, .int .i64 er])) w') : Calls Tryd.prog 11 args W post :=
  (hE W hc.glob).mono (by rintro e w' ⟨A, c, rfl, _, hC, hb⟩; exact h A c w' (hc.step hb) hC)
theorem call_dec {l : List Int} {A : Option Addr} {c : Nat} {v : Value} (hD : ∀ W (A : Option Addr) (c : Nat), Glob W → Kd.C (Kd.int .u8) W A l.length l → Calls Tryd.prog 13 #[.slice A l.length c] W fun e w' => e = .returned v ∧ Below W.heap.size W w') (hc : CI w cs W) (hC : Kd.C (Kd.int .u8) W A l.length l)
    (h : ∀ w', CI w cs w' → post (.returned v) w') : Calls Tryd.prog 13 #[.slice A l.length c] W post :=
  (hD W A c hc.glob hC).mono (by rintro e w' ⟨rfl, hb⟩; exact h w' (hc.step hb))
end
def fwB (rq wh sc mk : ByteArray) : Bool := decide (rq.size ≤ 200 ∧ wh.size ≤ 200 ∧ sc.size ≤ 200 ∧ mk.size ≤ 200)
theorem few_calls (k : Int) (rq wh sc mk : ByteArray) (pr am nu : Int) (W : World) (hW : Glob W) : Calls Tryd.prog 10 #[.agg #[.int .i64 k, .string rq, .string wh, .string sc, .string mk, .int .i64 pr, .int .i64 am, .int .u64 nu]] W fun e w' => e = .returned (.bool (fwB rq wh sc mk)) ∧ Below W.heap.size W w' := by
  refine cambistlaw20_few.calls k rq wh sc mk pr am nu _ W hW ?_
  unfold cambistlaw20_few.f fwB
  by_cases h1 : rq.size ≤ 200
  · by_cases h2 : wh.size ≤ 200
    · by_cases h3 : sc.size ≤ 200
      · rw [if_pos (by omega), if_pos (by omega), if_pos (by omega)]
        congr 1
        by_cases h4 : mk.size ≤ 200
        · rw [decide_eq_true (by omega), decide_eq_true ⟨h1, h2, h3, h4⟩]
        · rw [decide_eq_false (by omega), decide_eq_false (fun h => h4 h.2.2.2)]
      · rw [if_pos (by omega), if_pos (by omega), if_neg (by omega), decide_eq_false (fun h => h3 h.2.2.1)]
    · rw [if_pos (by omega), if_neg (by omega), decide_eq_false (fun h => h2 h.2.1)]
  · rw [if_neg (by omega), decide_eq_false (fun h => h1 h.1)]
theorem few_S {rq wh sc mk : ByteArray} (h : fwB rq wh sc mk = true) : fewS rq wh sc mk := by
  unfold fwB at h
  have h := of_decide_eq_true h
  unfold fewS
  omega
/-- A command that may be is small. -/
theorem dec_few {k : Int} {rq wh sc mk : ByteArray} {pr am nu : Int} (h : okCmd k rq wh sc mk pr am nu = true) : fewS rq wh sc mk := by
  have hi : ∀ i, i < 4 → (wordOf rq wh sc mk pr am nu i).size ≤ 1000000 := fun i hi => by
    cases hh : hasW k i with
    | true =>
      have hi' : i = 0 ∨ i = 1 ∨ i = 2 ∨ i = 3 := by omega
      have hm := may_of h (by omega) hh
      rcases hi' with rfl | rfl | rfl | rfl
      · have := (part_all (p := isSign) hm).2.2
        show rq.size ≤ 1000000
        omega
      · simp only [mayW, Bool.and_eq_true] at hm
        have := (who_all hm.1).2.2
        show wh.size ≤ 1000000
        omega
      · have := (part_all (p := isUp) hm).2.2
        show sc.size ≤ 1000000
        omega
      · have := (market_all hm).2.2
        show mk.size ≤ 1000000
        omega
    | false =>
      have hn := none_of h (by omega : i < 7) hh
      have hi' : i = 0 ∨ i = 1 ∨ i = 2 ∨ i = 3 := by omega
      rcases hi' with rfl | rfl | rfl | rfl
      · rw [show wordOf rq wh sc mk pr am nu 0 = ByteArray.empty from empty_of (s := rq) hn]; exact Nat.zero_le _
      · rw [show wordOf rq wh sc mk pr am nu 1 = ByteArray.empty from empty_of (s := wh) hn]; exact Nat.zero_le _
      · rw [show wordOf rq wh sc mk pr am nu 2 = ByteArray.empty from empty_of (s := sc) hn]; exact Nat.zero_le _
      · rw [show wordOf rq wh sc mk pr am nu 3 = ByteArray.empty from empty_of (s := mk) hn]; exact Nat.zero_le _
  exact ⟨hi 0 (by omega), hi 1 (by omega), hi 2 (by omega), hi 3 (by omega)⟩
end Go.Proofs.YtdpdbmdnmgaeiaaDoor.E
