/- The walk of label.Number. -/
import Derived.Test.YtjlifcbddednaaaGreatDoorOf
namespace Go.Proofs.YtjlifcbddednaaaGreatDoor.E
open Go.RowKit Go.Proofs.YtjlifcbddednaaaGreatDoorW.PrintWords Go.Proofs.YtjlifcbddednaaaGreatDoorW.PrintLast

/-- Where a byte stands among the sixteen signs; -1: nowhere. -/
def hexPlace (c : UInt8) : Int := Lib.indexByte [48, 49, 50, 51, 52, 53, 54, 55, 56, 57, 97, 98, 99, 100, 101, 102] c
def hexAll (l : List UInt8) : Bool := l.all fun c => decide (0 ≤ hexPlace c)
def numFold (l : List UInt8) : Nat := l.foldl (fun n c => n * 16 + (hexPlace c).toNat) 0
def label_Number.f (a0 : ByteArray) : Option (Int × Int) :=
  if a0.size = 16 then (if hexAll a0.data.toList = true then some ((numFold a0.data.toList : Int), 0) else some (0, 20)) else some (0, 20)

theorem indexByte_lt (l : List UInt8) (c : UInt8) : Lib.indexByte l c < l.length ∨ Lib.indexByte l c = -1 := by
  induction l with
  | nil => exact .inr rfl
  | cons b l ih =>
    unfold Lib.indexByte
    split
    · left; simp
    · split
      · exact .inr rfl
      · rename_i h1 h2
        have : Lib.indexByte l c ≠ -1 := by simpa using h2
        left; simp only [List.length_cons]; omega
theorem hexPlace_lt (c : UInt8) : hexPlace c < 16 := by
  rcases indexByte_lt [48, 49, 50, 51, 52, 53, 54, 55, 56, 57, 97, 98, 99, 100, 101, 102] c with h | h
  · exact h
  · unfold hexPlace; omega
theorem numFold_snoc (l : List UInt8) (c : UInt8) : numFold (l ++ [c]) = numFold l * 16 + (hexPlace c).toNat := by simp [numFold]
theorem numFold_lt (l : List UInt8) : numFold l < 16 ^ l.length := by
  have : ∀ k, k ≤ l.length → numFold (l.take k) < 16 ^ k := by
    intro k
    induction k with
    | zero => intro _; simp [numFold]
    | succ k ih =>
      intro hk
      rw [List.take_succ_eq_append_getElem (by omega), numFold_snoc, Nat.pow_succ]
      have := hexPlace_lt l[k]
      have := ih (by omega)
      omega
  simpa using this l.length (Nat.le_refl _)

theorem or_digit (m k : Nat) (v : Int) (h0 : 0 ≤ v) (h : v < 16) (hm : m < 16 ^ k) (hk : k ≤ 15) : bits .or .u64 (IntKind.u64.wrap ((m : Int) * 16)) v = ((m * 16 + v.toNat : Nat) : Int) := by
  have hp : (16 : Nat) ^ k ≤ 16 ^ 15 := Nat.pow_le_pow_right (by decide) hk
  have hp15 : (16 : Nat) ^ 15 = 1152921504606846976 := by decide
  rw [hp15] at hp
  obtain ⟨d, rfl⟩ := Int.eq_ofNat_of_zero_le h0
  rw [IntWalk.u64_in _ (by omega), show (m : Int) * 16 = ((m * 16 : Nat) : Int) by omega, u64_or_nat _ _ (by omega) (by omega)]
  have := Nat.shiftLeft_add_eq_or_of_lt (b := d) (i := 4) (by omega) m
  rw [Nat.shiftLeft_eq] at this
  rw [Int.toNat_natCast]
  exact congrArg Int.ofNat this.symm
theorem hexAll_snoc (l : List UInt8) (k : Nat) (hk : k < l.length) (h : hexAll (l.take k) = true) (hb : 0 ≤ hexPlace (l.getD k 0)) : hexAll (l.take (k + 1)) = true := take_all l _ k hk h (decide_eq_true hb)
theorem hexAll_not (l : List UInt8) (k : Nat) (hk : k < l.length) (hb : ¬ 0 ≤ hexPlace (l.getD k 0)) : hexAll l = false := not_all l _ k hk (decide_eq_false hb)
theorem numFold_next (l : List UInt8) (k : Nat) (hk : k < l.length) : numFold (l.take (k + 1)) = numFold (l.take k) * 16 + (hexPlace (l.getD k 0)).toNat := by
  rw [List.take_succ_eq_append_getElem hk, numFold_snoc, List.getD_eq_getElem?_getD, List.getElem?_eq_getElem hk]
  rfl
theorem numFold_take_lt (l : List UInt8) (k : Nat) (hk : k ≤ l.length) : numFold (l.take k) < 16 ^ k := by
  have := numFold_lt (l.take k)
  rwa [List.length_take, Nat.min_eq_left hk] at this
theorem ret_two {a b a' b' : Int} (h : (a, b) = (a', b')) : Ending.returned (.tuple #[.int .u64 a, .int .i64 b]) = .returned (.tuple #[.int .u64 a', .int .i64 b']) := by
  obtain ⟨rfl, rfl⟩ := Prod.mk.inj h
  rfl

set_option maxHeartbeats 2000000 in
set_option maxRecDepth 100000 in
theorem label_Number.calls (a0 : ByteArray) (r1 : Int) (r2 : Int) (w : World) (_hG : Glob w) (h : label_Number.f a0 = some (r1, r2)) :
    Calls Tryz.prog 28 #[.string a0] w fun e w' => e = .returned (.tuple #[.int .u64 r1, .int .i64 r2]) ∧ Below w.heap.size w w' := by
  unfold label_Number.f at h
  by_cases hsz : a0.size = 16
  · rw [if_pos hsz] at h
    have h16 : ((a0.size : Int) != 16) = false := bne_eq_false_iff_eq.2 (by omega)
    have HS := Lib.hid hsz; clear hsz
    obtain ⟨W, hW⟩ : ∃ W, W = Lib.bytesWorld w 5 a0 := ⟨_, rfl⟩
    have hcv := Lib.run_convert_string_bytes (P := Tryz.prog) w 9 72 5 a0 Tryz.underlying9 Tryz.underlying72 Tryz.underlying5
    rw [← hW] at hcv
    generalize grownCap w a0.size 0 5 = cap at hcv
    have hbel : Below w.heap.size w W := by rw [hW]; exact below_bytes _ _ _
    have hbytes : ∀ k, k < a0.size → W.cell? ⟨w.heap.size, k, none⟩ = some (.int .u8 ((a0.data.toList.getD k 0).toNat : Int)) := fun k hk => by
      rw [hW]; exact Lib.bytesWorld_cell w 5 a0 k hk
    clear hW
    have HB := Lib.hid hbytes; clear hbytes
    have HR := Lib.hid h; clear h
    have HL := Lib.hid hbel; clear hbel
    have hle : a0.size ≤ 16 := by have := HS.out; omega
    have HLE := Lib.hid (show a0.data.toList.length = a0.size by simp)
    have hsl : ∀ W : World, (Instr.slice 9 (.string ⟨#[48, 49, 50, 51, 52, 53, 54, 55, 56, 57, 97, 98, 99, 100, 101, 102, 103, 104, 105, 106, 107, 108, 109, 110, 111, 112, 113, 114, 115, 116, 117, 118, 119, 120, 121, 122]⟩) none (some (.int .i64 16)) none).run Tryz.prog W = .ok (.string ⟨#[48, 49, 50, 51, 52, 53, 54, 55, 56, 57, 97, 98, 99, 100, 101, 102]⟩) W := fun _ => by show _ = _; kernel_rfl
    go_enter Tryz.func28, Tryz.ntmps28
    go_wp2
    go_loop [2, 13] (fun n i => ∃ k : Nat, k ≤ a0.size ∧ i = .int .i64 k ∧ hexAll (a0.data.toList.take k) = true ∧ n = .int .u64 (numFold (a0.data.toList.take k) : Nat)) (fun _ i => a0.size - (intOf i).toNat)
    case atStart => exact ⟨0, Nat.zero_le _, rfl, rfl, rfl⟩
    case round =>
      obtain ⟨k, hk, rfl, hall, rfl⟩ := hrel
      have HN := Lib.hid hall; clear hall
      by_cases hlt : k < a0.size
      · obtain ⟨x, hx⟩ : ∃ x, a0.data.toList.getD k 0 = x := ⟨_, rfl⟩
        have hck : W.cell? ⟨w.heap.size, k, none⟩ = some (.int .u8 (x.toNat : Int)) := hx ▸ HB.out k hlt
        obtain ⟨m, hm⟩ : ∃ m, numFold (a0.data.toList.take k) = m := ⟨_, rfl⟩
        obtain ⟨v, hv⟩ : ∃ v, hexPlace x = v := ⟨_, rfl⟩
        have hv16 : v < 16 := hv ▸ hexPlace_lt x
        rw [hm]
        have HM := Lib.hid hm; clear hm
        have HV := Lib.hid hv; clear hv
        have HX := Lib.hid hx; clear hx
        by_cases hneg : v < 0
        · go_wp2_with (go_at_call 44; refine (Tryz.strings_IndexByte _ _ _).mono ?_; rintro e w' ⟨rfl, rfl⟩; rw [u8_back, show Lib.indexByte _ x = v from HV.out])
          go_ret2
          exact ⟨ret_two (by
            have := HR.out
            rw [if_neg (by rw [hexAll_not a0.data.toList k (by rw [HLE.out]; exact hlt) (by rw [HX.out, HV.out]; omega)]; simp)] at this
            exact Option.some.inj this), HL.out⟩
        · go_wp2_with (go_at_call 44; refine (Tryz.strings_IndexByte _ _ _).mono ?_; rintro e w' ⟨rfl, rfl⟩; rw [u8_back, show Lib.indexByte _ x = v from HV.out])
          go_round
          case rel =>
            have h1 := numFold_take_lt a0.data.toList k (by rw [HLE.out]; exact hk)
            rw [HM.out] at h1
            refine ⟨k + 1, by omega, by go_num, hexAll_snoc a0.data.toList k (by rw [HLE.out]; exact hlt) HN.out (by rw [HX.out, HV.out]; omega), ?_⟩
            rw [numFold_next a0.data.toList k (by rw [HLE.out]; exact hlt), HM.out, HX.out, HV.out, or_digit m k v (by omega) (by omega) h1 (by omega)]
          case measure => simp [intOf]; omega
      · obtain rfl : k = a0.size := by omega
        have hfin : (((numFold (a0.data.toList.take a0.size) : Nat) : Int), (0 : Int)) = (r1, r2) := by
          have h1 := HN.out
          have h2 : a0.data.toList.take a0.size = a0.data.toList := by rw [← HLE.out, List.take_length]
          rw [h2] at h1 ⊢
          have := HR.out
          rw [if_pos h1] at this
          exact Option.some.inj this
        have HF := Lib.hid hfin; clear hfin
        generalize ((numFold (a0.data.toList.take a0.size) : Nat) : Int) = q at HF
        go_wp2
        go_ret2
        exact ⟨ret_two HF.out, HL.out⟩
  · rw [if_neg hsz] at h
    have h16 : ((a0.size : Int) != 16) = true := bne_iff_ne.2 (by omega)
    have HR := Lib.hid h; clear h
    have HS := Lib.hid hsz; clear hsz
    go_enter Tryz.func28, Tryz.ntmps28
    go_wp2
    go_ret2
    exact ⟨ret_two (Option.some.inj HR.out), Below.refl _ _⟩
end Go.Proofs.YtjlifcbddednaaaGreatDoor.E
