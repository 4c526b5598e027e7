/- The row's other closed facts, and a start that fits it. No condition. -/
import Derived.Test.YthpdgdhnadljiaaGreatDoorH
import Derived.Test.YthpdgdhnadljiaaGreatDoorCards
import Derived.Test.YthpdgdhnadljiaaGreatDoorTie
import Derived.ProofKit
import Derived.LaidMore
import Derived.OpenShut
import Derived.Deep.DeepHandedRow
set_option linter.all false
namespace Go.Proofs.YthpdgdhnadljiaaGreatDoor
open Go Go.ChangeShapes Go.WideShapes Go.ChangeAt Go.RowKit
set_option maxRecDepth 100000 in
theorem lawFacts : joinedFacts Tryz.pinned.checked.prog 3 Tryz.f3 (OpenSpec.ofChange Rows.goalsStartsSpec).bare Rows.goalsStartsRow = true := by
  unfold joinedFacts
  exact (and_i (and_i (and_i (and_i (and_i (and_i (and_i (and_i (and_i (and_i (and_i (and_i (and_i (and_i (and_i (and_i (and_i (and_i (and_i (and_i (and_i (and_i (and_i (and_i (and_i (and_i (and_i (and_i (and_i (and_i (and_i fact0 fact1) fact2) fact3) fact4) fact5) fact6) fact7) fact8) fact9) fact10) fact11) fact12) fact13) fact14) fact15) fact16) fact17) fact18) fact19) fact20) fact21) fact22) fact23) fact24) fact25) fact26) fact27) fact28) fact29) fact30) fact31)
end Go.Proofs.YthpdgdhnadljiaaGreatDoor
namespace Go.Proofs.YthpdgdhnadljiaaGreatDoor
open Go Go.ChangeShapes Go.WideShapes Go.ChangeAt Go.RowKit

theorem lawNamed : Tryz.pinned.checked.prog.funcNamed Rows.goalsStartsRow.func = some 3 := by kernel_rfl
theorem lawInst : Tryz.f3.isInstance Tryz.pinned.checked.prog Rows.goalsStartsRow.origin Rows.goalsStartsRow.targs := of_decide_eq_true (by kernel_rfl)
theorem lawWrap : Tryz.f3.isWrapper Tryz.pinned.checked.prog Rows.goalsStartsRow.wrapper Rows.goalsStartsRow.mainSum := by
  unfold Func.isWrapper
  first
    | (rw [if_pos (by decide +kernel)]; kernel_rfl)
    | (rw [if_neg (by decide +kernel)]; exact ⟨rfl, rfl⟩)
theorem own : ownKnob Tryz.prog.godebug = none := by kernel_rfl
theorem laidOut : laidOutB Tryz.prog = true := fact1

noncomputable def laidWorld (os : Os) : World := World.doorLaid Tryz.prog 4000 os

abbrev wArgs : Array Value := #[.slice none 0 0, .agg #[.int .i64 0, .int .i64 0, .string ⟨#[]⟩, .slice none 0 0, .slice none 0 0]]

theorem laid_met (os : Os) : laidMet Tryz.prog Rows.goalsStartsRow.laid ((laidWorld os).forCall (fun _ _ => 0) ⟨#[], wArgs, []⟩).memory :=
  laidMet_of_run' 8 (by kernel_rfl) (by kernel_rfl)
theorem reads (os : Os) {H : Type} (enc : TypeId × Value → H) : ∃ places, DataW.whole enc Tryz.prog ((laidWorld os).forCall (fun _ _ => 0) ⟨#[], wArgs, []⟩).memory Tryz.f3.params.toList Rows.goalsStartsSpec.vars false wArgs.toList 8 = some ([.nil, .agg [.lit (.int .i64 0), .lit (.int .i64 0), .lit (.string []), .nil, .nil]], [], places) :=
  ⟨[], by kernel_rfl⟩

theorem noStandIn (f : FuncId) (fn : Func) (hf : Tryz.pinned.checked.prog.funcNamed "euclid/euclidlaw35.GoalsStarts" = some f) (hfn : Tryz.pinned.checked.prog.funcs[f]? = some fn) :
    true = Tryz.pinned.checked.prog.looks [] ∧ ∀ (j : Nat) t, fn.params[j]? = some t → Tryz.pinned.checked.prog.wantsStandIn t = false := by
  obtain rfl : f = 3 := Option.some.inj ((show Tryz.prog.funcNamed "euclid/euclidlaw35.GoalsStarts" = some 3 by kernel_rfl).symm.trans hf) |>.symm
  obtain rfl : fn = Tryz.f3 := (Option.some.inj (Tryz.func3.symm.trans hfn)).symm
  refine ⟨by kernel_rfl, fun j t ht => ?_⟩
  rw [Tryz.params3] at ht
  have : t = 22 ∨ t = 26 := by simpa using Array.mem_of_getElem? ht
  rcases this with rfl | rfl
  · exact (show Tryz.prog.wantsStandIn 22 = false by kernel_rfl)
  · exact (show Tryz.prog.wantsStandIn 26 = false by kernel_rfl)

end Go.Proofs.YthpdgdhnadljiaaGreatDoor
