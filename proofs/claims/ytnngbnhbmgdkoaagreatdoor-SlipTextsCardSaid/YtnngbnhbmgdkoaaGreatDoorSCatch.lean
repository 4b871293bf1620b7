/- What is given up is caught: slip.caught, and the deferred closure of slip.Parse. -/
import Derived.Test.YtnngbnhbmgdkoaaGreatDoorSSlip
import Derived.Defers
import Derived.Recover
import Derived.Tactics2
import Derived.Laws.Pointers
namespace Go.Proofs.YtnngbnhbmgdkoaaGreatDoor.E
open Go.RowKit Go.Proofs.YtnngbnhbmgdkoaaGreatDoor.P Go.Proofs.YtnngbnhbmgdkoaaGreatDoorW.PrintWords Go.Proofs.YtnngbnhbmgdkoaaGreatDoorW.PrintLast
theorem caught_nil (w : World) : Calls Tryz.prog 24 #[.nilIface] w fun e w' => e = .returned (.int .i64 0) ∧ w' = w := by
  go_enter Tryz.func24, Tryz.ntmps24
  go_wp2
  go_ret
  exact ⟨rfl, rfl⟩
theorem caught_some (w : World) : Calls Tryz.prog 24 #[.iface 28 (.int .i64 190)] w fun e w' => e = .returned (.int .i64 190) ∧ w' = w := by
  have h1 : ∀ w : World, (binOp BinOp.eql 20 (.iface 28 (.int .i64 190)) .nilIface).run Tryz.prog w = .ok (.bool false) w := fun _ => by show _ = _; kernel_rfl
  have h2 : ∀ w : World, (Instr.typeAssert (.iface 28 (.int .i64 190)) 20 28 true).run Tryz.prog w = .ok (.tuple #[.int .i64 190, .bool true]) w := fun _ => by show _ = _; kernel_rfl
  go_enter Tryz.func24, Tryz.ntmps24
  go_wp2
  go_ret
  exact ⟨rfl, rfl⟩
def errV : Value := .iface 28 (.int .i64 190)
def zeroS : Array Value := #[.string ⟨#[]⟩, .string ⟨#[]⟩, .int .u64 0, .int .i64 0, .slice none 0 0, .int .i64 0]
set_option maxHeartbeats 2000000 in
theorem catch_idle (be bs : Nat) (x : Int) (w : World) (he : w.heap[be]? = some (.cells #[.int .i64 x] 28 (0, 0))) :
    CallsD Tryz.prog 23 #[.pointer (some ⟨be, 0, none⟩), .pointer (some ⟨bs, 0, none⟩)] .returning w fun e u' w' => e = .returned (.tuple #[]) ∧ u' = .returning ∧ w' = w.setCell ⟨be, 0, none⟩ (.int .i64 0) := by
  have c0 : w.cell? ⟨be, 0, none⟩ = some (.int .i64 x) := (blk_cell he 0).trans rfl
  have f0 : w.frozen? ⟨be, 0, none⟩ = false := blk_frozen he 0
  have c1 : (w.setCell ⟨be, 0, none⟩ (.int .i64 0)).cell? ⟨be, 0, none⟩ = some (.int .i64 0) := (blk_cell (blk_put he 0 (.int .i64 0) (cs' := #[.int .i64 0]) rfl) 0).trans rfl
  refine callsD_of_wpS Tryz.func23 rfl fun c₀ cs hu => ?_
  apply wpS_seq
  apply wpS_region
  simp [wpOpsS, go_sem, recoverD, hu, Tryz.ntmps23, Exit.thenS]
  refine (caught_nil w).mono ?_
  rintro e w' ⟨rfl, rfl⟩
  simp [go_sem, c0, f0]
  apply wpS_seq
  apply wpS_region
  simp [wpOpsS, go_sem, c1, Exit.thenS]
  refine wpS_cond (t := false) (by simp [Act.eval, Array.replicate]) ?_
  simp only [Bool.false_eq_true, if_false]
  refine wpS_of_wp (wp_skip ?_)
  cases c₀
  simp_all [bodyPostS, results, Tryz.results23]
set_option maxHeartbeats 2000000 in
theorem catch_panicking (be bs : Nat) (hlt : bs < be) (w : World) (he : w.heap[be]? = some (.cells #[.int .i64 0] 28 (0, 0))) (hs : w.heap[bs]? = some (.cells zeroS 25 (0, 0))) :
    CallsD Tryz.prog 23 #[.pointer (some ⟨be, 0, none⟩), .pointer (some ⟨bs, 0, none⟩)] (.panicking [{ v := .iface 28 (.int .i64 190), recovered := false }]) w fun e u' w' => e = .returned (.tuple #[]) ∧ u' = .panicking [{ v := .iface 28 (.int .i64 190), recovered := true }] ∧
      w'.heap[be]? = some (.cells #[.int .i64 190] 28 (0, 0)) ∧ w'.heap[bs]? = some (.cells zeroS 25 (0, 0)) ∧ Below bs w w' := by
  have c0 : w.cell? ⟨be, 0, none⟩ = some (.int .i64 0) := (blk_cell he 0).trans rfl
  have f0 : w.frozen? ⟨be, 0, none⟩ = false := blk_frozen he 0
  obtain ⟨w1, hw1⟩ : ∃ w1, w1 = w.setCell ⟨be, 0, none⟩ (.int .i64 190) := ⟨_, rfl⟩
  have he1 : w1.heap[be]? = some (.cells #[.int .i64 190] 28 (0, 0)) := hw1 ▸ blk_put he 0 (.int .i64 190) (cs' := #[.int .i64 190]) rfl
  have hs1 : w1.heap[bs]? = some (.cells zeroS 25 (0, 0)) := hw1 ▸ blk_far hs (p := ⟨be, 0, none⟩) (Nat.ne_of_lt hlt) (.int .i64 190)
  have hb1 : Below bs w w1 := hw1 ▸ (Below.refl bs w).setCell (p := ⟨be, 0, none⟩) (Nat.le_of_lt hlt) _
  have c1 : w1.cell? ⟨be, 0, none⟩ = some (.int .i64 190) := (blk_cell he1 0).trans rfl
  have s0 : w1.cell? ⟨bs, 0, none⟩ = some (.string ⟨#[]⟩) := (blk_cell hs1 0).trans rfl
  have s1 : w1.cell? ⟨bs, 1, none⟩ = some (.string ⟨#[]⟩) := (blk_cell hs1 1).trans rfl
  have s2 : w1.cell? ⟨bs, 2, none⟩ = some (.int .u64 0) := (blk_cell hs1 2).trans rfl
  have s3 : w1.cell? ⟨bs, 3, none⟩ = some (.int .i64 0) := (blk_cell hs1 3).trans rfl
  have s4 : w1.cell? ⟨bs, 4, none⟩ = some (.slice none 0 0) := (blk_cell hs1 4).trans rfl
  have s5 : w1.cell? ⟨bs, 5, none⟩ = some (.int .i64 0) := (blk_cell hs1 5).trans rfl
  have z0 := blk_frozen hs1 0
  have z1 := blk_frozen hs1 1
  have z2 := blk_frozen hs1 2
  have z3 := blk_frozen hs1 3
  have z4 := blk_frozen hs1 4
  have z5 := blk_frozen hs1 5
  have hse := blk_put (blk_put (blk_put (blk_put (blk_put (blk_put hs1 0 (.string ⟨#[]⟩) (cs' := zeroS) rfl) 1 (.string ⟨#[]⟩) (cs' := zeroS) rfl) 2 (.int .u64 0) (cs' := zeroS) rfl) 3 (.int .i64 0) (cs' := zeroS) rfl) 4 (.slice none 0 0) (cs' := zeroS) rfl) 5 (.int .i64 0) (cs' := zeroS) rfl
  have hee := blk_far (blk_far (blk_far (blk_far (blk_far (blk_far he1 (p := ⟨bs, 0, none⟩) (Nat.ne_of_gt hlt) (.string ⟨#[]⟩)) (p := ⟨bs, 1, none⟩) (Nat.ne_of_gt hlt) (.string ⟨#[]⟩)) (p := ⟨bs, 2, none⟩) (Nat.ne_of_gt hlt) (.int .u64 0)) (p := ⟨bs, 3, none⟩) (Nat.ne_of_gt hlt) (.int .i64 0)) (p := ⟨bs, 4, none⟩) (Nat.ne_of_gt hlt) (.slice none 0 0)) (p := ⟨bs, 5, none⟩) (Nat.ne_of_gt hlt) (.int .i64 0)
  have hbe := (((((hb1.setCell (p := ⟨bs, 0, none⟩) (Nat.le_refl _) (.string ⟨#[]⟩)).setCell (p := ⟨bs, 1, none⟩) (Nat.le_refl _) (.string ⟨#[]⟩)).setCell (p := ⟨bs, 2, none⟩) (Nat.le_refl _) (.int .u64 0)).setCell (p := ⟨bs, 3, none⟩) (Nat.le_refl _) (.int .i64 0)).setCell (p := ⟨bs, 4, none⟩) (Nat.le_refl _) (.slice none 0 0)).setCell (p := ⟨bs, 5, none⟩) (Nat.le_refl _) (.int .i64 0)
  refine callsD_of_wpS Tryz.func23 rfl fun c₀ cs hu => ?_
  apply wpS_seq
  apply wpS_region
  simp [wpOpsS, go_sem, recoverD, hu, Tryz.ntmps23, Exit.thenS]
  refine (caught_some w).mono ?_
  rintro e w' ⟨rfl, rfl⟩
  simp [go_sem, c0, f0]
  rw [← hw1]
  apply wpS_seq
  apply wpS_region
  simp [wpOpsS, go_sem, c1, Exit.thenS]
  refine wpS_cond (t := true) (by simp [Act.eval, Array.replicate]) ?_
  simp only [if_true]
  apply wpS_region
  simp [wpOpsS, go_sem, s0, s1, s2, s3, s4, s5, z0, z1, z2, z3, z4, z5, bodyPostS, results, Tryz.results23]
  exact ⟨hee, hse, hbe⟩
end Go.Proofs.YtnngbnhbmgdkoaaGreatDoor.E
