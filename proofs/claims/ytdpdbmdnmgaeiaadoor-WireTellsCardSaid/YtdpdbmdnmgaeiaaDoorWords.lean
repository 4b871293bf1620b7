/- The walks of wire.words, wire.first and of the document's Has. -/
import Derived.Test.YtdpdbmdnmgaeiaaDoorGlob
import Derived.Test.YtdpdbmdnmgaeiaaDoorSpec20
import Derived.Test.YtdpdbmdnmgaeiaaDoorWLast
import Derived.WalkKit
namespace Go.Proofs.YtdpdbmdnmgaeiaaDoor.E
open Go.RowKit Go.Proofs.YtdpdbmdnmgaeiaaDoorW.PrintWords Go.Proofs.YtdpdbmdnmgaeiaaDoorW.PrintLast
theorem kind_cases {a : Int} (h : 0 ≤ a ∧ a ≤ 13) : a = 0 ∨ a = 1 ∨ a = 2 ∨ a = 3 ∨ a = 4 ∨ a = 5 ∨ a = 6 ∨ a = 7 ∨ a = 8 ∨ a = 9 ∨ a = 10 ∨ a = 11 ∨ a = 12 ∨ a = 13 := by omega
theorem idx_mask {a : Int} (h : 0 ≤ a ∧ a ≤ 13) (w : World) : (Instr.index 62 (.agg #[.int .i64 0, .int .i64 39, .int .i64 39, .int .i64 9, .int .i64 59, .int .i64 59, .int .i64 65, .int .i64 9, .int .i64 1, .int .i64 1, .int .i64 6, .int .i64 70, .int .i64 4, .int .i64 0]) (.int .i64 a)).run Tryd.prog w = .ok (.int .i64 (maskOf a)) w := by
  rcases kind_cases h with rfl | rfl | rfl | rfl | rfl | rfl | rfl | rfl | rfl | rfl | rfl | rfl | rfl | rfl <;> kernel_rfl
theorem wire_words.calls (a0 : Int) (r : Int) (w : World) (_hG : Glob w) (h : wire_words.f a0 = some r) :
    Calls Tryd.prog 22 #[.int .i64 a0] w fun e w' => e = .returned (.int .i64 r) ∧ Drawn0 w w' := by
  unfold wire_words.f at h
  split at h
  case isFalse => cases h
  rename_i hk
  obtain rfl := Option.some.inj h
  have hx := fun w => idx_mask hk w
  clear h _hG hk
  go_enter Tryd.func22, Tryd.ntmps22
  go_wp2
  go_ret
  exact ⟨rfl, Drawn0.refl _⟩
theorem results_c {P : Program} {fn : Func} {p : Tmp} {ty : TypeId} (h : fn.results = #[.cell p ty]) (tmps : Array Value) (w : World) (g : Nat) (t : TypeId) (cs : Array Value) (fr : Nat × Nat) (d : TypeDesc)
    (hp : tmps.getD p undef = .pointer (some ⟨g, 0, none⟩)) (hg : w.heap[g]? = some (.cells cs t fr))
    (hu : P.underlying ty = some d) (hd : (match d with | .struct _ | .array _ _ => true | _ => false) = true) (hi : (P.info? ty).map (·.size) = some cs.size) :
    (results fn tmps).run P w = .ok (.agg cs) w := by
  have hp' : tmps[p]?.getD undef = .pointer (some ⟨g, 0, none⟩) := by simpa using hp
  simp [results, h, hp', asAddr, run_loadVar_row w g t ty cs fr d hg hu hd hi]
theorem wire_first_calls (w : World) :
    Calls Tryd.prog 19 #[] w fun e w' => e = .returned (.agg (firsts.map Value.string).toArray) ∧ Below w.heap.size w w' := by
  go_enter Tryd.func19, Tryd.ntmps19
  go_wp2
  refine bodyPost_ret (results_c rfl _ _ w.heap.size _ _ _ _ rfl (heap_alloc_new _ _) Tryd.underlying38 rfl (by kernel_rfl)) rfl ?_
  exact ⟨rfl, below_alloc (Below.refl _ _) _⟩
theorem ref_has_calls (a0 : Int) (hk : 0 ≤ a0 ∧ a0 ≤ 13) (w : World) :
    Calls Tryd.prog 24 #[.int .i64 a0] w fun e w' => e = .returned (.agg ((List.range 7).map fun i => Value.bool (hasW a0 i)).toArray) ∧ Below w.heap.size w w' := by
  rcases kind_cases hk with rfl | rfl | rfl | rfl | rfl | rfl | rfl | rfl | rfl | rfl | rfl | rfl | rfl | rfl
  all_goals
    clear hk
    go_enter Tryd.func24, Tryd.ntmps24
    go_wp2
    refine bodyPost_ret (results_c rfl _ _ w.heap.size _ _ _ _ rfl (heap_alloc_new _ _) Tryd.underlying46 rfl (by kernel_rfl)) rfl ?_
    exact ⟨rfl, below_alloc (Below.refl _ _) _⟩
end Go.Proofs.YtdpdbmdnmgaeiaaDoor.E
