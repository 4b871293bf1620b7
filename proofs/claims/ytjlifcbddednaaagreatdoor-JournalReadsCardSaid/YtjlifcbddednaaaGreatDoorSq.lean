/- Proofs that stand many times over in the printed texts: each is told where it is used. -/
import Derived.Test.YtjlifcbddednaaaGreatDoorPx0
import Derived.Test.YtjlifcbddednaaaGreatDoorShort
namespace Go.Proofs.YtjlifcbddednaaaGreatDoor.P
open Go.RowKit Go.Proofs.YtjlifcbddednaaaGreatDoor.E Go.Proofs.YtjlifcbddednaaaGreatDoorW.PrintWords Go.Proofs.YtjlifcbddednaaaGreatDoorW.PrintLast
theorem z1_ {p : Prop} (h : p := by (with_reducible repeat (first | refine kN_ ?_ _ | refine kD_ ?_ | refine kA_ ?_ _)); refine blk_put (cs := #[.string ((rd_T36 l0_3 x4_2).f0), .string ((rd_T36 l0_3 x4_2).f1), .int .i64 0]) ?_ 2 _ rfl; (with_reducible repeat (first | refine kN_ ?_ _ | refine kD_ ?_ | refine kA_ ?_ _)); refine blk_put (cs := #[.string ((rd_T36 l0_3 x4_2).f0), .string (⟨#[]⟩ : ByteArray), .int .i64 0]) ?_ 1 _ rfl; (with_reducible repeat (first | refine kN_ ?_ _ | refine kD_ ?_ | refine kA_ ?_ _)); refine blk_put (cs := #[.string (⟨#[]⟩ : ByteArray), .string (⟨#[]⟩ : ByteArray), .int .i64 0]) ?_ 0 _ rfl; (with_reducible repeat (first | refine kN_ ?_ _ | refine kD_ ?_ | refine kA_ ?_ _)); exact BK299.out) : p := h
theorem z2_ {p : Prop} (h : p := by (with_reducible repeat (first | apply Kd.R_alloc | apply Kd.R_drewN | apply Kd.R_drew)); exact Kd.R_mono (Kd.R_far (p := ⟨gb343, 2, none⟩) (Kd.R_far (p := ⟨gb343, 1, none⟩) (Kd.R_far (p := ⟨gb343, 0, none⟩) (Kd.R_types HO_12.out BK343.out (by decide)) (fun _ hk => hk.2) (.string ((rd_T36 ((rd_T39 l0 x13_1).f3) x14_2).f0))) (fun _ hk => hk.2) (.string ((rd_T36 ((rd_T39 l0 x13_1).f3) x14_2).f1))) (fun _ hk => hk.2) (.int .i64 ((rd_T36 ((rd_T39 l0 x13_1).f3) x14_2).f2))) (fun _ hk => trivial)) : p := h
theorem z3_ {p : Prop} (h : p := by (with_reducible repeat (first | refine kN_ ?_ _ | refine kD_ ?_ | refine kA_ ?_ _)); refine blk_far ?_ NB296_299.out _; (with_reducible repeat (first | refine kN_ ?_ _ | refine kD_ ?_ | refine kA_ ?_ _)); refine blk_far ?_ NB296_299.out _; (with_reducible repeat (first | refine kN_ ?_ _ | refine kD_ ?_ | refine kA_ ?_ _)); refine blk_far ?_ NB296_299.out _; (with_reducible repeat (first | refine kN_ ?_ _ | refine kD_ ?_ | refine kA_ ?_ _)); exact BK296.out) : p := h
theorem z4_ {p : Prop} (h : p := by first | exact Kd.own_blk (Kd.R_ne HO121.out BK118.out (by decide)) | (rw [add_block]; exact Kd.own_blk (Kd.R_ne HO121.out BK118.out (by decide))) | (show (Addr.add _ _).block ≠ _; rw [add_block]; exact Kd.own_blk (Kd.R_ne HO121.out BK118.out (by decide))) | (dsimp only; exact Kd.own_blk (Kd.R_ne HO121.out BK118.out (by decide)))) : p := h
theorem z5_ {p : Prop} (h : p := by rw [hg]; exact (below_size (by repeat (first | (with_reducible first | exact HB.out | apply bA_ | apply bN_ | apply b1_ | refine bS_ ?_ GE127.out | refine bS_ ?_ GE151.out) | exact HB.out)))) : p := h
theorem z6_ {p : Prop} (h : p := by repeat (first | (with_reducible first | exact HB.out | apply bA_ | apply bN_ | apply b1_ | refine bS_ ?_ GE127.out | refine bS_ ?_ GE151.out | refine bS_ ?_ GE156.out) | exact HB.out)) : p := h
theorem z7_ {p : Prop} (h : p := by rw [hg]; exact (below_size (by repeat (first | (with_reducible first | exact HB.out | apply bA_ | apply bN_ | apply b1_ | refine bS_ ?_ GE117.out) | exact HB.out)))) : p := h
theorem z8_ {p : Prop} (h : p := by rw [hg]; exact (below_size (by repeat (first | (with_reducible first | exact HB.out | apply bA_ | apply bN_ | apply b1_ | refine bS_ ?_ GE127.out) | exact HB.out)))) : p := h
theorem z9_ {p : Prop} (h : p := by rw [hg]; exact (below_size (by repeat (first | (with_reducible first | exact HB.out | apply bA_ | apply bN_ | apply b1_ | refine bS_ ?_ GE203.out) | exact HB.out)))) : p := h
theorem z10_ {p : Prop} (h : p := by rw [hg]; exact (below_size (by repeat (first | (with_reducible first | exact HB.out | apply bA_ | apply bN_ | apply b1_ | refine bS_ ?_ GE296.out) | exact HB.out)))) : p := h
theorem z11_ {p : Prop} (h : p := by repeat (first | (with_reducible first | exact HB.out | apply bA_ | apply bN_ | apply b1_ | refine bS_ ?_ GE117.out | refine bS_ ?_ GE118.out) | exact HB.out)) : p := h
theorem z12_ {p : Prop} (h : p := by repeat (first | (with_reducible first | exact HB.out | apply bA_ | apply bN_ | apply b1_ | refine bS_ ?_ GE127.out | refine bS_ ?_ GE151.out) | exact HB.out)) : p := h
theorem z13_ {p : Prop} (h : p := by repeat (first | (with_reducible first | exact HB.out | apply bA_ | apply bN_ | apply b1_ | refine bS_ ?_ GE203.out | refine bS_ ?_ GE204.out) | exact HB.out)) : p := h
theorem z14_ {p : Prop} (h : p := by repeat (first | (with_reducible first | exact HB.out | apply bA_ | apply bN_ | apply b1_ | refine bS_ ?_ GE229.out | refine bS_ ?_ GE248.out) | exact HB.out)) : p := h
theorem z15_ {p : Prop} (h : p := by repeat (first | (with_reducible first | exact HB.out | apply bA_ | apply bN_ | apply b1_ | refine bS_ ?_ GE296.out | refine bS_ ?_ GE299.out) | exact HB.out)) : p := h
theorem z16_ {p : Prop} (h : p := by repeat (first | (with_reducible first | exact HB.out | apply bA_ | apply bN_ | apply b1_ | refine bS_ ?_ GE309.out | refine bS_ ?_ GE323.out) | exact HB.out)) : p := h
theorem z17_ {p : Prop} (h : p := by repeat (first | (with_reducible first | exact HB.out | apply bA_ | apply bN_ | apply b1_ | refine bS_ ?_ GE179.out | refine bS_ ?_ GE192.out) | exact HB.out)) : p := h
theorem z18_ {p : Prop} (h : p := by first | exact Kd.R_nil _ _ _ _ _ | exact Kd.N_nil _ _ _ _ _ | exact Kd.V_nil _ _ _ _ _ | exact Kd.Q_nil _ _ _ _ _ | exact Kd.S_nil _ _ _ _ _) : p := h
theorem z19_ {p : Prop} (h : p := by (try simp only [List.map_toArray, List.map_cons, List.map_nil]); first | done | rfl | (simp only [List.length_drop, List.length_take]; rfl)) : p := h
theorem z20_ {p : Prop} (h : p := by rw [hg]; exact (below_size (by repeat (first | (with_reducible first | exact HB.out | apply bA_ | apply bN_ | apply b1_) | exact HB.out)))) : p := h
theorem z21_ {p : Prop} (h : p := by (with_reducible repeat (first | apply Kd.R_alloc | apply Kd.R_drewN | apply Kd.R_drew)); exact Kd.R_mono HO_6.out (fun _ hk => trivial)) : p := h
theorem z22_ {p : Prop} (h : p := by repeat (first | (with_reducible first | exact HB.out | apply bA_ | apply bN_ | apply b1_ | refine bS_ ?_ GE117.out) | exact HB.out)) : p := h
theorem z23_ {p : Prop} (h : p := by repeat (first | (with_reducible first | exact HB.out | apply bA_ | apply bN_ | apply b1_ | refine bS_ ?_ GE127.out) | exact HB.out)) : p := h
theorem z24_ {p : Prop} (h : p := by repeat (first | (with_reducible first | exact HB.out | apply bA_ | apply bN_ | apply b1_ | refine bS_ ?_ GE171.out) | exact HB.out)) : p := h
theorem z25_ {p : Prop} (h : p := by repeat (first | (with_reducible first | exact HB.out | apply bA_ | apply bN_ | apply b1_ | refine bS_ ?_ GE203.out) | exact HB.out)) : p := h
theorem z26_ {p : Prop} (h : p := by repeat (first | (with_reducible first | exact HB.out | apply bA_ | apply bN_ | apply b1_ | refine bS_ ?_ GE229.out) | exact HB.out)) : p := h
theorem z27_ {p : Prop} (h : p := by repeat (first | (with_reducible first | exact HB.out | apply bA_ | apply bN_ | apply b1_ | refine bS_ ?_ GE296.out) | exact HB.out)) : p := h
theorem z28_ {p : Prop} (h : p := by repeat (first | (with_reducible first | exact HB.out | apply bA_ | apply bN_ | apply b1_ | refine bS_ ?_ GE309.out) | exact HB.out)) : p := h
theorem z29_ {p : Prop} (h : p := by repeat (first | (with_reducible first | exact HB.out | apply bA_ | apply bN_ | apply b1_ | refine bS_ ?_ GE343.out) | exact HB.out)) : p := h
theorem z30_ {p : Prop} (h : p := by repeat (first | (with_reducible first | exact HB.out | apply bA_ | apply bN_ | apply b1_ | refine bS_ ?_ GE179.out) | exact HB.out)) : p := h
theorem z31_ {p : Prop} (h : p := by (with_reducible repeat (first | apply Kd.R_alloc | apply Kd.R_drewN | apply Kd.R_drew)); exact HO_128003.out) : p := h
theorem z32_ {p : Prop} (h : p := by (with_reducible repeat (first | apply Kd.R_alloc | apply Kd.R_drewN | apply Kd.R_drew)); exact HO_249003.out) : p := h
theorem z33_ {p : Prop} (h : p := by repeat (first | (with_reducible first | exact HB.out | apply bA_ | apply bN_ | apply b1_) | exact HB.out)) : p := h
theorem z34_ {p : Prop} (h : p := by (with_reducible repeat (first | apply Kd.R_alloc | apply Kd.R_drewN | apply Kd.R_drew)); exact HO107.out) : p := h
theorem z35_ {p : Prop} (h : p := by (with_reducible repeat (first | apply Kd.R_alloc | apply Kd.R_drewN | apply Kd.R_drew)); exact HO169.out) : p := h
theorem z36_ {p : Prop} (h : p := by (with_reducible repeat (first | apply Kd.R_alloc | apply Kd.R_drewN | apply Kd.R_drew)); exact HO252.out) : p := h
theorem z37_ {p : Prop} (h : p := by have := HK1.out; have := HK2.out; have := HJ8.out; have := HJ14.out; first | omega | exact Nat.le_refl _) : p := h
theorem z38_ {p : Prop} (h : p := by (with_reducible repeat (first | apply Kd.R_alloc | apply Kd.R_drewN | apply Kd.R_drew)); exact HO314.out) : p := h
theorem z39_ {p : Prop} (h : p := by (with_reducible repeat (first | apply Kd.R_alloc | apply Kd.R_drewN | apply Kd.R_drew)); exact HO327.out) : p := h
theorem z40_ {p : Prop} (h : p := by (with_reducible repeat (first | apply Kd.R_alloc | apply Kd.R_drewN | apply Kd.R_drew)); exact HO_12.out) : p := h
theorem z41_ {p : Prop} (h : p := by (with_reducible repeat (first | apply Kd.S_alloc | apply Kd.S_drewN | apply Kd.S_drew)); exact HO353.out) : p := h
theorem z42_ {p : Prop} (h : p := by (with_reducible repeat (first | apply Kd.S_alloc | apply Kd.S_drewN | apply Kd.S_drew)); exact HO357.out) : p := h
theorem z43_ {p : Prop} (h : p := by (with_reducible repeat (first | apply Kd.R_alloc | apply Kd.R_drewN | apply Kd.R_drew)); exact HO_3.out) : p := h
theorem z44_ {p : Prop} (h : p := by have := HJ1.out; have := HJ5.out; have := HJ8.out; have := HK4.out; first | omega | exact Nat.le_refl _) : p := h
theorem z45_ {p : Prop} (h : p := by (with_reducible repeat (first | apply Kd.R_alloc | apply Kd.R_drewN | apply Kd.R_drew)); exact HO_5.out) : p := h
theorem z46_ {p : Prop} (h : p := by (with_reducible repeat (first | apply Kd.R_alloc | apply Kd.R_drewN | apply Kd.R_drew)); exact HO_6.out) : p := h
theorem z47_ {p : Prop} (h : p := by (with_reducible repeat (first | apply Kd.Q_alloc | apply Kd.Q_drewN | apply Kd.Q_drew)); exact HO_5.out) : p := h
theorem z48_ {p : Prop} (h : p := by (with_reducible repeat (first | apply Kd.Q_alloc | apply Kd.Q_drewN | apply Kd.Q_drew)); exact HO_4.out) : p := h
theorem z49_ {p : Prop} (h : p := by (with_reducible repeat (first | apply Kd.R_alloc | apply Kd.R_drewN | apply Kd.R_drew)); exact HO_7.out) : p := h
theorem z50_ {p : Prop} (h : p := by (with_reducible repeat (first | refine kN_ ?_ _ | refine kD_ ?_ | refine kA_ ?_ _)); exact BK117.out) : p := h
theorem z51_ {p : Prop} (h : p := by (with_reducible repeat (first | refine kN_ ?_ _ | refine kD_ ?_ | refine kA_ ?_ _)); exact BK118.out) : p := h
theorem z52_ {p : Prop} (h : p := by (with_reducible repeat (first | refine kN_ ?_ _ | refine kD_ ?_ | refine kA_ ?_ _)); exact BK127.out) : p := h
theorem z53_ {p : Prop} (h : p := by (with_reducible repeat (first | refine kN_ ?_ _ | refine kD_ ?_ | refine kA_ ?_ _)); exact BK151.out) : p := h
theorem z54_ {p : Prop} (h : p := by (with_reducible repeat (first | refine kN_ ?_ _ | refine kD_ ?_ | refine kA_ ?_ _)); exact BK171.out) : p := h
theorem z55_ {p : Prop} (h : p := by (with_reducible repeat (first | refine kN_ ?_ _ | refine kD_ ?_ | refine kA_ ?_ _)); exact BK203.out) : p := h
theorem z56_ {p : Prop} (h : p := by (with_reducible repeat (first | refine kN_ ?_ _ | refine kD_ ?_ | refine kA_ ?_ _)); exact BK204.out) : p := h
theorem z57_ {p : Prop} (h : p := by (with_reducible repeat (first | refine kN_ ?_ _ | refine kD_ ?_ | refine kA_ ?_ _)); exact BK229.out) : p := h
theorem z58_ {p : Prop} (h : p := by (with_reducible repeat (first | refine kN_ ?_ _ | refine kD_ ?_ | refine kA_ ?_ _)); exact BK248.out) : p := h
theorem z59_ {p : Prop} (h : p := by (with_reducible repeat (first | refine kN_ ?_ _ | refine kD_ ?_ | refine kA_ ?_ _)); exact BK296.out) : p := h
theorem z60_ {p : Prop} (h : p := by (with_reducible repeat (first | refine kN_ ?_ _ | refine kD_ ?_ | refine kA_ ?_ _)); exact BK309.out) : p := h
theorem z61_ {p : Prop} (h : p := by (with_reducible repeat (first | refine kN_ ?_ _ | refine kD_ ?_ | refine kA_ ?_ _)); exact BK323.out) : p := h
theorem z62_ {p : Prop} (h : p := by (with_reducible repeat (first | refine kN_ ?_ _ | refine kD_ ?_ | refine kA_ ?_ _)); exact BK179.out) : p := h
theorem z63_ {p : Prop} (h : p := by (with_reducible repeat (first | refine kN_ ?_ _ | refine kD_ ?_ | refine kA_ ?_ _)); exact BK192.out) : p := h
theorem z64_ {p : Prop} (h : p := by first | rfl | (simp [errW_none, errW_some] <;> rfl) | (simp [*, errW_none, errW_some] <;> rfl)) : p := h
theorem z65_ {p : Prop} (h : p := by have := HK1.out; have := HK2.out; have := HJ8.out; first | omega | exact Nat.le_refl _) : p := h
theorem z66_ {p : Prop} (h : p := by have := HK1.out; have := HK2.out; first | omega | exact Nat.le_refl _) : p := h
theorem z67_ {p : Prop} (h : p := by repeat (first | exact Drawn0.refl _ | apply Drawn0.step)) : p := h
theorem z68_ {p : Prop} (h : p := by have := HK1.out; have := HK2.out; have := HJ6.out; omega) : p := h
theorem z69_ {p : Prop} (h : p := by have := HJ4.out; first | omega | exact Nat.le_refl _) : p := h
theorem z70_ {p : Prop} (h : p := by first | (with_reducible assumption) | assumption) : p := h
theorem z71_ {p : Prop} (h : p := by first | rfl | (simp; done) | (simp [*]; done)) : p := h
theorem z72_ {p : Prop} (h : p := by first | omega | exact Nat.le_refl _) : p := h
theorem z73_ {p : Prop} (h : p := by have := HK1.out; omega) : p := h
theorem z74_ {p : Prop} (h : p := by kernel_rfl) : p := h
end Go.Proofs.YtjlifcbddednaaaGreatDoor.P
