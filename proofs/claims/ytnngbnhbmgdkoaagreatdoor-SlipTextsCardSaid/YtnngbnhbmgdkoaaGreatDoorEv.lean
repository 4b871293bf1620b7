/- Small words for pure statements: what holds from some number of rounds on; bytes of a text. -/
import Derived.Test.YtnngbnhbmgdkoaaGreatDoorWWords
import Derived.Test.YtnngbnhbmgdkoaaGreatDoorWLast
namespace Go.Proofs.YtnngbnhbmgdkoaaGreatDoor.E
open Go.RowKit Go.Proofs.YtnngbnhbmgdkoaaGreatDoorW.PrintWords Go.Proofs.YtnngbnhbmgdkoaaGreatDoorW.PrintLast
section
variable {α β : Type}
theorem ev_succ {g : Nat → Option α} {r : α} (h : Ev (fun k => g (k + 1)) r) : Ev g r := Ev.step (fun _ => rfl) h
theorem ev_pos {c : Prop} [Decidable c] {g f : Nat → Option α} {r : α} (h : c) (e : Ev g r) : Ev (fun k => if c then g k else f k) r := Ev.congr (fun _ => if_pos h) e
theorem ev_neg {c : Prop} [Decidable c] {g f : Nat → Option α} {r : α} (h : ¬ c) (e : Ev f r) : Ev (fun k => if c then g k else f k) r := Ev.congr (fun _ => if_neg h) e
theorem ev_opt {o : Option β} {a : β} {f : Nat → β → Option α} {r : α} (h : o = some a) (e : Ev (fun k => f k a) r) : Ev (fun k => o.bind (f k)) r := Ev.congr (fun _ => by rw [h]; rfl) e
theorem ev_call {g : Nat → Option β} {a : β} {f : Nat → β → Option α} {r : α} (h : Ev g a) (e : Ev (fun k => f k a) r) : Ev (fun k => (g k).bind (f k)) r := Ev.bind h e
theorem ev_some {r s : α} (h : r = s) : Ev (fun _ => some r) s := h ▸ Ev.now r
theorem ev_eq {g : Nat → Option α} {r s : α} (h : r = s) (e : Ev g r) : Ev g s := h ▸ e
end
/-- Byte i of a text. -/
theorem bt_get (s : ByteArray) (i : Nat) (h : i < s.data.toList.length) : bt s (i : Int) = ((s.data.toList[i]'h).toNat : Int) := by
  unfold bt
  have h2 : i < s.size := by rw [← data_length]; exact h
  rw [dif_pos (by simpa using h2)]
  rfl
theorem size_len (s : ByteArray) : s.data.toList.length = s.size := data_length s
theorem wrap_next {i : Nat} {n : Nat} (h : i ≤ n) (hn : n ≤ 140737488351232) : wrap64 ((i : Int) + 1) = ((i + 1 : Nat) : Int) := by
  unfold wrap64
  omega
theorem wrap_in {x : Int} (h0 : -9223372036854775808 ≤ x) (h1 : x ≤ 9223372036854775807) : wrap64 x = x := by
  unfold wrap64
  omega
theorem toList_data (s : ByteArray) : s.toList = s.data.toList := by
  have h : ∀ (n i : Nat) (r : List UInt8), s.size - i = n → i ≤ s.size → ByteArray.toList.loop s i r = r.reverse ++ s.data.toList.drop i := by
    intro n
    induction n with
    | zero =>
      intro i r hn hi
      unfold ByteArray.toList.loop
      rw [if_neg (by omega), List.drop_of_length_le (by rw [data_length]; omega), List.append_nil]
    | succ n ih =>
      intro i r hn hi
      unfold ByteArray.toList.loop
      rw [if_pos (by omega), ih (i + 1) _ (by omega) (by omega)]
      have hlt : i < s.data.toList.length := by rw [data_length]; omega
      rw [List.drop_eq_getElem_cons hlt, List.reverse_cons, List.append_assoc]
      congr 2
      unfold ByteArray.get!
      show [s.data[i]!] ++ _ = _
      rw [getElem!_pos s.data i (by simpa using hlt)]
      simp
  have := h s.size 0 [] (by omega) (by omega)
  unfold ByteArray.toList
  rw [this]
  rfl
theorem text_ext {a b : ByteArray} (h : a.data.toList = b.data.toList) : a = b := by
  cases a with | mk x => cases b with | mk y => simpa using h
theorem toList_inj {a b : ByteArray} : a.toList = b.toList ↔ a = b := ⟨fun h => text_ext (by rw [← toList_data, ← toList_data, h]), fun h => by rw [h]⟩
/-- What holds of all bytes. -/
theorem all_u8 {p : UInt8 → Prop} [DecidablePred p] (h : ∀ n : Fin 256, p (UInt8.ofNat n.val)) (c : UInt8) : p c := by
  have := h ⟨c.toNat, c.toNat_lt⟩
  simpa using this
end Go.Proofs.YtnngbnhbmgdkoaaGreatDoor.E
