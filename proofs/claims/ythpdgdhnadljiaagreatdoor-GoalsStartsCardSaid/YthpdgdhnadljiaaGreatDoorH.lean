/- The law GoalsStarts returns true for every input and leaves its arguments as they were. No condition. -/
import Derived.Test.YthpdgdhnadljiaaGreatDoorCards
import Derived.Test.YthpdgdhnadljiaaGreatDoorTie
import Derived.ProofKit
import Derived.OpenShut
import Derived.Deep.DeepHandedRow
import Derived.LaidMore
import Derived.Test.YthpdgdhnadljiaaGreatDoorG
import Derived.Carry
set_option linter.all false
namespace Go.Proofs.YthpdgdhnadljiaaGreatDoor
open Go Go.ChangeShapes Go.WideShapes Go.ChangeAt Go.RowKit

theorem and_i {a b : Bool} (h : a = true) (k : b = true) : (a && b) = true := by rw [h, k]; rfl
theorem fact0 : (Rows.goalsStartsRow.wf (OpenSpec.ofChange (OpenSpec.ofChange Rows.goalsStartsSpec).bare)) = true := by kernel_rfl
theorem fact1 : (laidOutB Tryz.pinned.checked.prog) = true := by kernel_rfl
theorem fact2 : (mapsRowed Tryz.pinned.checked.prog) = true := by kernel_rfl
theorem fact3 : (Tryz.f3.params.all (Tryz.pinned.checked.prog.readableRec ·)) = true := by kernel_rfl
theorem fact4 : (namedTie Tryz.pinned.checked.prog Rows.goalsStartsRow.named (OpenSpec.ofChange Rows.goalsStartsSpec).bare.vars) = true := by kernel_rfl
theorem fact5 : ((Rows.goalsStartsRow.stops == [])) = true := by kernel_rfl
theorem fact6 : ((Tryz.pinned.checked.prog.stops == [])) = true := by kernel_rfl
theorem fact7 : ((Rows.goalsStartsRow.knobs == [])) = true := by kernel_rfl
theorem fact8 : ((Tryz.pinned.checked.prog.stopKnobs == [])) = true := by kernel_rfl
theorem fact9 : ((Rows.goalsStartsRow.inPlace == Tryz.pinned.checked.prog.inPlace 3)) = true := by kernel_rfl
theorem fact10 : ((Rows.goalsStartsRow.unfollowed == Tryz.pinned.checked.prog.unfollowed 3)) = true := by kernel_rfl
theorem fact11 : ((Rows.goalsStartsRow.recurses == Tryz.pinned.checked.prog.recurses 3)) = true := by kernel_rfl
theorem fact12 : ((Rows.goalsStartsRow.named == Tryz.pinned.checked.prog.varsNamed 3)) = true := by kernel_rfl
theorem fact13 : ((Rows.goalsStartsRow.maps == (Tryz.f3.params.toList ++ (OpenSpec.ofChange Rows.goalsStartsSpec).bare.plain.varTypes Tryz.pinned.checked.prog).any (Tryz.pinned.checked.prog.mapsRec ·))) = true := by kernel_rfl
theorem fact14 : ((Rows.goalsStartsRow.ifaces == (Tryz.f3.params.toList ++ (OpenSpec.ofChange Rows.goalsStartsSpec).bare.plain.varTypes Tryz.pinned.checked.prog).any (Tryz.pinned.checked.prog.ifacesRec ·))) = true := by kernel_rfl
theorem fact15 : ((Rows.goalsStartsRow.mapsOut == Tryz.pinned.checked.prog.mapsAmong Tryz.f3.resultTypes.toList)) = true := by kernel_rfl
theorem fact16 : ((Rows.goalsStartsRow.loops == (Tryz.f3.params.toList ++ (OpenSpec.ofChange Rows.goalsStartsSpec).bare.plain.varTypes Tryz.pinned.checked.prog).any (Tryz.pinned.checked.prog.loopsFrom ·))) = true := by kernel_rfl
theorem fact17 : ((Rows.goalsStartsRow.wideKeys == (Tryz.f3.params.toList ++ (OpenSpec.ofChange Rows.goalsStartsSpec).bare.plain.varTypes Tryz.pinned.checked.prog ++ Tryz.f3.resultTypes.toList).any (Tryz.pinned.checked.prog.wideKeysFrom ·))) = true := by kernel_rfl
theorem fact18 : ((OpenSpec.ofChange Rows.goalsStartsSpec).bare.vars.all (Tryz.pinned.checked.prog.varReadable ·)) = true := by kernel_rfl
theorem fact19 : (Tryz.f3.resultTypes.all (fun t => Tryz.pinned.checked.prog.readableRec t && decide (t < Tryz.pinned.checked.prog.types.size))) = true := by kernel_rfl
theorem fact20 : ((Rows.goalsStartsRow.ifacesOut == Tryz.f3.resultTypes.toList.any (Tryz.pinned.checked.prog.ifacesRec ·))) = true := by kernel_rfl
theorem fact21 : ((Rows.goalsStartsRow.loopsOut == Tryz.f3.resultTypes.toList.any (Tryz.pinned.checked.prog.loopsFrom ·))) = true := by kernel_rfl
theorem fact22 : ((Rows.goalsStartsRow.plainKeys == Tryz.pinned.checked.prog.plainKeys)) = true := by kernel_rfl
theorem fact23 : (Rows.goalsStartsRow.shortTexts.isNone) = true := by kernel_rfl
theorem fact24 : (Tryz.pinned.checked.prog.stopsHeard) = true := by kernel_rfl
theorem fact25 : (Tryz.pinned.checked.prog.mayEnter) = true := by kernel_rfl
theorem fact26 : ((Rows.goalsStartsRow.lifted == Tryz.pinned.checked.prog.liftsFinal)) = true := by kernel_rfl
theorem fact27 : ((Tryz.pinned.checked.prog.make == some Rows.goalsStartsRow.make)) = true := by kernel_rfl
theorem fact28 : ((Rows.goalsStartsRow.kinds == (if Rows.goalsStartsRow.domain.isEmpty then [] else Tryz.f3.params.toList.map fun t => match Tryz.pinned.checked.prog.underlying t with | some (.int k) => some k | _ => none))) = true := by kernel_rfl
theorem fact29 : ((Rows.goalsStartsRow.pinned == Rows.goalsStartsRow.pinnedBy)) = true := by kernel_rfl
theorem fact30 : ((Rows.goalsStartsRow.veiled == (Tryz.f3.params.toList ++ (OpenSpec.ofChange Rows.goalsStartsSpec).bare.plain.varTypes Tryz.pinned.checked.prog ++ Tryz.f3.resultTypes.toList).any (Tryz.pinned.checked.prog.veiledRec ·))) = true := by kernel_rfl
theorem fact31 : (Rows.goalsStartsRow.veiledFits Tryz.pinned.checked.prog Tryz.f3.params.toList (Tryz.f3.params.toList ++ (OpenSpec.ofChange Rows.goalsStartsSpec).bare.plain.varTypes Tryz.pinned.checked.prog ++ Tryz.f3.resultTypes.toList)) = true := by kernel_rfl
end Go.Proofs.YthpdgdhnadljiaaGreatDoor
namespace Go.Proofs.YthpdgdhnadljiaaGreatDoor
open Go Go.ChangeShapes Go.WideShapes Go.ChangeAt Go.RowKit
set_option maxRecDepth 100000 in
theorem lawFacts : joinedFacts Tryz.pinned.checked.prog 3 Tryz.f3 (OpenSpec.ofChange Rows.goalsStartsSpec).bare Rows.goalsStartsRow = true := by
  unfold joinedFacts
  exact (and_i (and_i (and_i (and_i (and_i (and_i (and_i (and_i (and_i (and_i (and_i (and_i (and_i (and_i (and_i (and_i (and_i (and_i (and_i (and_i (and_i (and_i (and_i (and_i (and_i (and_i (and_i (and_i (and_i (and_i (and_i fact0 fact1) fact2) fact3) fact4) fact5) fact6) fact7) fact8) fact9) fact10) fact11) fact12) fact13) fact14) fact15) fact16) fact17) fact18) fact19) fact20) fact21) fact22) fact23) fact24) fact25) fact26) fact27) fact28) fact29) fact30) fact31)
end Go.Proofs.YthpdgdhnadljiaaGreatDoor
namespace Go.Proofs.YthpdgdhnadljiaaGreatDoor
open Go Go.ChangeShapes Go.WideShapes Go.ChangeAt Go.RowKit

theorem lawNamed : Tryz.pinned.checked.prog.funcNamed Rows.goalsStartsRow.func = some 3 := by kernel_rfl
theorem lawInst : Tryz.f3.isInstance Tryz.pinned.checked.prog Rows.goalsStartsRow.origin Rows.goalsStartsRow.targs := of_decide_eq_true (by kernel_rfl)
theorem lawWrap : Tryz.f3.isWrapper Tryz.pinned.checked.prog Rows.goalsStartsRow.wrapper Rows.goalsStartsRow.mainSum := by
  unfold Func.isWrapper
  first
    | (rw [if_pos (by decide +kernel)]; kernel_rfl)
    | (rw [if_neg (by decide +kernel)]; exact ⟨rfl, rfl⟩)
theorem own : ownKnob Tryz.prog.godebug = none := by kernel_rfl
theorem laidOut : laidOutB Tryz.prog = true := fact1

noncomputable def laidWorld (os : Os) : World := World.doorLaid Tryz.prog 4000 os

abbrev wArgs : Array Value := #[.slice none 0 0, .agg #[.int .i64 0, .int .i64 0, .string ⟨#[]⟩, .slice none 0 0, .slice none 0 0]]

theorem laid_met (os : Os) : laidMet Tryz.prog Rows.goalsStartsRow.laid ((laidWorld os).forCall (fun _ _ => 0) ⟨#[], wArgs, []⟩).memory :=
  laidMet_of_run' 8 (by kernel_rfl) (by kernel_rfl)
theorem reads (os : Os) {H : Type} (enc : TypeId × Value → H) : ∃ places, DataW.whole enc Tryz.prog ((laidWorld os).forCall (fun _ _ => 0) ⟨#[], wArgs, []⟩).memory Tryz.f3.params.toList Rows.goalsStartsSpec.vars false wArgs.toList 8 = some ([.nil, .agg [.lit (.int .i64 0), .lit (.int .i64 0), .lit (.string []), .nil, .nil]], [], places) :=
  ⟨[], by kernel_rfl⟩

theorem noStandIn (f : FuncId) (fn : Func) (hf : Tryz.pinned.checked.prog.funcNamed "euclid/euclidlaw35.GoalsStarts" = some f) (hfn : Tryz.pinned.checked.prog.funcs[f]? = some fn) :
    true = Tryz.pinned.checked.prog.looks [] ∧ ∀ (j : Nat) t, fn.params[j]? = some t → Tryz.pinned.checked.prog.wantsStandIn t = false := by
  obtain rfl : f = 3 := Option.some.inj ((show Tryz.prog.funcNamed "euclid/euclidlaw35.GoalsStarts" = some 3 by kernel_rfl).symm.trans hf) |>.symm
  obtain rfl : fn = Tryz.f3 := (Option.some.inj (Tryz.func3.symm.trans hfn)).symm
  refine ⟨by kernel_rfl, fun j t ht => ?_⟩
  rw [Tryz.params3] at ht
  have : t = 22 ∨ t = 26 := by simpa using Array.mem_of_getElem? ht
  rcases this with rfl | rfl
  · exact (show Tryz.prog.wantsStandIn 22 = false by kernel_rfl)
  · exact (show Tryz.prog.wantsStandIn 26 = false by kernel_rfl)

end Go.Proofs.YthpdgdhnadljiaaGreatDoor
namespace Go.Proofs.YthpdgdhnadljiaaGreatDoor
open Go Go.ChangeShapes Go.WideShapes Go.ChangeAt Go.RowKit

theorem plainTypes : Em.plainB Tryz.prog [22, 9, 26, 3, 23, 24, 74, 72, 167] = true := by kernel_rfl

set_option maxRecDepth 100000 in
theorem contract (H : Type) (enc : TypeId × Value → H) (W : World) (base : Nat) (args : Array Value) (ds gs : List (DataW H)) (before : List MemPlace)
    (hval : ∀ (j : Nat) t v, Tryz.f3.params[j]? = some t → args[j]? = some v → Value.okWide Tryz.prog W .any base t v)
    (hW : DataW.Whole enc Tryz.prog Tryz.f3.params.toList Rows.goalsStartsSpec.vars false W args.toList ds gs before) :
    Calls Tryz.prog 3 args W fun e W' => ∃ v, e = .returned v ∧ Rows.goalsStartsSpec.post enc Tryz.prog Tryz.f3 false true false false W args v W' := by
  have hW' := hW
  obtain ⟨p, q, hA0, hV, rfl, hfz, hnd⟩ := hW
  have hA : DataW.TrodAll enc Tryz.prog W 0 (fun _ => true) true Tryz.f3.params.toList args.toList ds p := hA0
  rw [Tryz.params3] at hA hval
  obtain ⟨v0, v1, d0, d1, p0, p1, rfl, rfl, rfl, h0, h1⟩ := trodAll_two hA
  obtain ⟨rfl, rfl⟩ := trodVars_none hV
  simp only [List.append_nil] at hW'
  have k0 : ∃ i0, Em.VRI W (Em.G0 W).tag i0 v0 ∧ Em.Shape Tryz.prog 22 [i0] := by
    obtain ⟨fuel, hf⟩ := h0
    obtain ⟨is, hc, hs⟩ := Em.shape_of_trod plainTypes fuel (.head _) hf
    obtain ⟨a, len, cap, rfl⟩ := okWide_slice Tryz.underlying22 (hval 0 22 v0 rfl rfl)
    match is, hc.len with
    | [i0], _ => exact ⟨i0, hc.vr 0 _ _ rfl rfl, hs⟩
  have k1 : ∃ l1, Em.VRI W (Em.G0 W).tag (.agg l1) v1 ∧ Em.Shape Tryz.prog 26 l1 := by
    obtain ⟨fuel, hf⟩ := h1
    obtain ⟨is, hc, hs⟩ := Em.shape_of_trod plainTypes fuel (.tail _ (.tail _ (.head _))) hf
    have hv := hval 1 26 v1 rfl rfl
    unfold Value.okWide at hv
    rw [Tryz.underlying26] at hv
    obtain ⟨cs, rfl, _, _⟩ := hv
    refine ⟨is, ?_, hs⟩
    have := Em.VRI.agg (vs := cs.toList) hc.len hc.vr hc.one
    simpa using this
  obtain ⟨i0, r0, s0⟩ := k0
  obtain ⟨l1, r1, s1⟩ := k1
  have walk := Em.calls_of (f := 3) Em.envOk Em.primOk rfl rfl rfl (is := [i0, .agg l1]) (us := [v0, v1]) rfl (fun i c u hc hu => by
    match i with
    | 0 => simp at hc hu; subst hc; subst hu; exact r0
    | 1 => simp at hc hu; subst hc; subst hu; exact r1
    | i + 2 => simp at hc) (Em.law s0 s1)
  refine Calls.mono walk fun e W' ⟨he, bel⟩ => ?_
  subst he
  have hlt : ∀ x ∈ p0 ++ p1, x.block < W.heap.size := fun x hx => by simpa using hW'.lt x hx
  refine ⟨_, rfl, _, _, _, [], p0 ++ p1, [], hW', ?_, ?_, rfl, bel.frame _, fun h => by cases h⟩
  · exact trodAll_mk1 (shut_bool Tryz.underlying4 _)
  · exact trodAll_mk2 (Below.trod laidOut (by kernel_rfl) (of_decide_eq_true (by kernel_rfl)) h0 bel fun x hx => hlt x (List.mem_append_left _ hx))
      (Below.trod laidOut (by kernel_rfl) (of_decide_eq_true (by kernel_rfl)) h1 bel fun x hx => hlt x (List.mem_append_right _ hx))

set_option maxRecDepth 100000 in
theorem lifted (os : Os) (started : os.Started) (H : Type) (enc : TypeId × Value → H) (F : Stop.Interp) :
    ReturnsInHanded {} Tryz.checked os 3 .any ((OpenSpec.ofChange Rows.goalsStartsSpec).preRow enc Tryz.prog Tryz.f3 Rows.goalsStartsRow.domain false Rows.goalsStartsRow.laid) (((OpenSpec.ofChange Rows.goalsStartsSpec).at F).post enc Tryz.prog Tryz.f3 false true false false) := by
  obtain ⟨places, hx⟩ := reads os enc
  refine returnsInHanded_of_row (C := Tryz.checked) (s := OpenSpec.ofChange Rows.goalsStartsSpec) own started (by kernel_rfl) Tryz.func3
    (witness_row_at (enc := enc) (C := Tryz.checked) false (laidWorld os) wArgs rfl (by kernel_rfl) (by kernel_rfl) (by kernel_rfl)
      (OpenSpec.preRow_of_cond 8 hx (by kernel_rfl) (fun k hk => by cases hk) (by kernel_rfl) (laid_met os))) ?_
  intro W base args ds gs before hval hW _ _ _ _ _ _
  exact contract H enc W base args ds gs before hval hW

theorem said : Rows.GoalsStartsSaid :=
  OpenClaim.holds_of_cond 3 Tryz.f3 rfl rfl rfl rfl rfl rfl rfl ⟨rfl, rfl, rfl, rfl, rfl⟩ rfl rfl rfl rfl rfl lawNamed Tryz.func3 lawFacts lawInst lawWrap
    (fun os started H enc _ F => by rw [OpenClaim.pre_eq_preRow]; exact lifted os started H enc F)

/-- For every input the law returns true, and each argument reads afterwards as it read before. -/
theorem goalsStarts_holds : Rows.GoalsStartsCardSaid :=
  Claim7.holds_tied_plain_at .later [] _ _ _ _ said (fun _ h => by cases h) (by kernel_rfl) (fun _ h => by cases h) goalsStarts_row_tie rfl ⟨rfl, rfl⟩ (by kernel_rfl) rfl noStandIn (by kernel_rfl)
#print axioms goalsStarts_holds
end Go.Proofs.YthpdgdhnadljiaaGreatDoor
