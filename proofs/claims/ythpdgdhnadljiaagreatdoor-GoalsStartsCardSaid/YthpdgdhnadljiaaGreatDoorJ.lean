/- The law GoalsStarts returns true for every input and leaves its arguments as they were. No condition. -/
import Derived.Test.YthpdgdhnadljiaaGreatDoorG
import Derived.Test.YthpdgdhnadljiaaGreatDoorI
import Derived.Carry
set_option linter.all false
namespace Go.Proofs.YthpdgdhnadljiaaGreatDoor
open Go Go.ChangeShapes Go.WideShapes Go.ChangeAt Go.RowKit

theorem plainTypes : Em.plainB Tryz.prog [22, 9, 26, 3, 23, 24, 74, 72, 167] = true := by kernel_rfl

set_option maxRecDepth 100000 in
theorem contract (H : Type) (enc : TypeId × Value → H) (W : World) (base : Nat) (args : Array Value) (ds gs : List (DataW H)) (before : List MemPlace)
    (hval : ∀ (j : Nat) t v, Tryz.f3.params[j]? = some t → args[j]? = some v → Value.okWide Tryz.prog W .any base t v)
    (hW : DataW.Whole enc Tryz.prog Tryz.f3.params.toList Rows.goalsStartsSpec.vars false W args.toList ds gs before) :
    Calls Tryz.prog 3 args W fun e W' => ∃ v, e = .returned v ∧ Rows.goalsStartsSpec.post enc Tryz.prog Tryz.f3 false true false false W args v W' := by
  have hW' := hW
  obtain ⟨p, q, hA0, hV, rfl, hfz, hnd⟩ := hW
  have hA : DataW.TrodAll enc Tryz.prog W 0 (fun _ => true) true Tryz.f3.params.toList args.toList ds p := hA0
  rw [Tryz.params3] at hA hval
  obtain ⟨v0, v1, d0, d1, p0, p1, rfl, rfl, rfl, h0, h1⟩ := trodAll_two hA
  obtain ⟨rfl, rfl⟩ := trodVars_none hV
  simp only [List.append_nil] at hW'
  have k0 : ∃ i0, Em.VRI W (Em.G0 W).tag i0 v0 ∧ Em.Shape Tryz.prog 22 [i0] := by
    obtain ⟨fuel, hf⟩ := h0
    obtain ⟨is, hc, hs⟩ := Em.shape_of_trod plainTypes fuel (.head _) hf
    obtain ⟨a, len, cap, rfl⟩ := okWide_slice Tryz.underlying22 (hval 0 22 v0 rfl rfl)
    match is, hc.len with
    | [i0], _ => exact ⟨i0, hc.vr 0 _ _ rfl rfl, hs⟩
  have k1 : ∃ l1, Em.VRI W (Em.G0 W).tag (.agg l1) v1 ∧ Em.Shape Tryz.prog 26 l1 := by
    obtain ⟨fuel, hf⟩ := h1
    obtain ⟨is, hc, hs⟩ := Em.shape_of_trod plainTypes fuel (.tail _ (.tail _ (.head _))) hf
    have hv := hval 1 26 v1 rfl rfl
    unfold Value.okWide at hv
    rw [Tryz.underlying26] at hv
    obtain ⟨cs, rfl, _, _⟩ := hv
    refine ⟨is, ?_, hs⟩
    have := Em.VRI.agg (vs := cs.toList) hc.len hc.vr hc.one
    simpa using this
  obtain ⟨i0, r0, s0⟩ := k0
  obtain ⟨l1, r1, s1⟩ := k1
  have walk := Em.calls_of (f := 3) Em.envOk Em.primOk rfl rfl rfl (is := [i0, .agg l1]) (us := [v0, v1]) rfl (fun i c u hc hu => by
    match i with
    | 0 => simp at hc hu; subst hc; subst hu; exact r0
    | 1 => simp at hc hu; subst hc; subst hu; exact r1
    | i + 2 => simp at hc) (Em.law s0 s1)
  refine Calls.mono walk fun e W' ⟨he, bel⟩ => ?_
  subst he
  have hlt : ∀ x ∈ p0 ++ p1, x.block < W.heap.size := fun x hx => by simpa using hW'.lt x hx
  refine ⟨_, rfl, _, _, _, [], p0 ++ p1, [], hW', ?_, ?_, rfl, bel.frame _, fun h => by cases h⟩
  · exact trodAll_mk1 (shut_bool Tryz.underlying4 _)
  · exact trodAll_mk2 (Below.trod laidOut (by kernel_rfl) (of_decide_eq_true (by kernel_rfl)) h0 bel fun x hx => hlt x (List.mem_append_left _ hx))
      (Below.trod laidOut (by kernel_rfl) (of_decide_eq_true (by kernel_rfl)) h1 bel fun x hx => hlt x (List.mem_append_right _ hx))

set_option maxRecDepth 100000 in
theorem lifted (os : Os) (started : os.Started) (H : Type) (enc : TypeId × Value → H) (F : Stop.Interp) :
    ReturnsInHanded {} Tryz.checked os 3 .any ((OpenSpec.ofChange Rows.goalsStartsSpec).preRow enc Tryz.prog Tryz.f3 Rows.goalsStartsRow.domain false Rows.goalsStartsRow.laid) (((OpenSpec.ofChange Rows.goalsStartsSpec).at F).post enc Tryz.prog Tryz.f3 false true false false) := by
  obtain ⟨places, hx⟩ := reads os enc
  refine returnsInHanded_of_row (C := Tryz.checked) (s := OpenSpec.ofChange Rows.goalsStartsSpec) own started (by kernel_rfl) Tryz.func3
    (witness_row_at (enc := enc) (C := Tryz.checked) false (laidWorld os) wArgs rfl (by kernel_rfl) (by kernel_rfl) (by kernel_rfl)
      (OpenSpec.preRow_of_cond 8 hx (by kernel_rfl) (fun k hk => by cases hk) (by kernel_rfl) (laid_met os))) ?_
  intro W base args ds gs before hval hW _ _ _ _ _ _
  exact contract H enc W base args ds gs before hval hW

theorem said : Rows.GoalsStartsSaid :=
  OpenClaim.holds_of_cond 3 Tryz.f3 rfl rfl rfl rfl rfl rfl rfl ⟨rfl, rfl, rfl, rfl, rfl⟩ rfl rfl rfl rfl rfl lawNamed Tryz.func3 lawFacts lawInst lawWrap
    (fun os started H enc _ F => by rw [OpenClaim.pre_eq_preRow]; exact lifted os started H enc F)

/-- For every input the law returns true, and each argument reads afterwards as it read before. -/
theorem goalsStarts_holds : Rows.GoalsStartsCardSaid :=
  Claim7.holds_tied_plain_at .later [] _ _ _ _ said (fun _ h => by cases h) (by kernel_rfl) (fun _ h => by cases h) goalsStarts_row_tie rfl ⟨rfl, rfl⟩ (by kernel_rfl) rfl noStandIn (by kernel_rfl)
#print axioms goalsStarts_holds
end Go.Proofs.YthpdgdhnadljiaaGreatDoor
