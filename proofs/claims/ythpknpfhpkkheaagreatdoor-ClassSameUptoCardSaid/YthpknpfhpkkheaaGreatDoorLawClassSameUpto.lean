/- Whether two classes are the same, and what methods are called with, is as the document says; where the two classes are together of bulk at most 1048576. -/
import Derived.Test.YthpknpfhpkkheaaGreatDoorRows
import Derived.Test.YthpknpfhpkkheaaGreatDoorClsUp
import Derived.Test.YthpknpfhpkkheaaGreatDoorTie
import Derived.Test.YthpknpfhpkkheaaGreatDoorCards
import Derived.Test.YthpknpfhpkkheaaGreatDoorMGj
import Derived.WalkKit
import Derived.ProofKit
import Derived.OpenShut
import Derived.ShutString
import Derived.ChangeOld
import Derived.Below
import Derived.SizedLaws
import Derived.Deep.DeepHandedRow
namespace Go.Proofs.YthpknpfhpkkheaaGreatDoor.classSame
open Go.ChangeShapes Go.WideShapes Go.ChangeAt Go.RowKit
open Go.ChangeMaps (open_string shut_string)
set_option linter.unusedVariables false
theorem own : ownKnob Tryz.prog.godebug = none := by kernel_rfl
theorem laidOut : laidOutB Tryz.prog = true := by kernel_rfl
set_option maxRecDepth 100000 in
theorem lifted (os : Os) (started : os.Started) (H : Type) (enc : TypeId × Value → H) (F : Stop.Interp) :
    ReturnsInHanded {} Tryz.checked os 6 .any ((Rows.OpenSpec.upto Rows.classSameSpec).preRow enc Tryz.prog Tryz.f6 Rows.classSameUptoRow.domain false Rows.classSameUptoRow.laid) (((Rows.OpenSpec.upto Rows.classSameSpec).at F).post enc Tryz.prog Tryz.f6 false true false false) := by
  have hok : Input.okWideB Tryz.prog ((laidWorld os).forCall (fun _ _ => 0) ⟨#[], #[.agg #[.string ByteArray.empty, .string ByteArray.empty, .slice none 0 0, .bool false, .bool false, .bool false, .slice none 0 0, .slice none 0 0], .agg #[.string ByteArray.empty, .string ByteArray.empty, .slice none 0 0, .bool false, .bool false, .bool false, .slice none 0 0, .slice none 0 0]], []⟩) 6 ⟨#[], #[.agg #[.string ByteArray.empty, .string ByteArray.empty, .slice none 0 0, .bool false, .bool false, .bool false, .slice none 0 0, .slice none 0 0], .agg #[.string ByteArray.empty, .string ByteArray.empty, .slice none 0 0, .bool false, .bool false, .bool false, .slice none 0 0, .slice none 0 0]], []⟩ = true := by kernel_rfl
  have hrow : (Rows.OpenSpec.upto Rows.classSameSpec).preRow enc Tryz.prog Tryz.f6 Rows.classSameUptoRow.domain false Rows.classSameUptoRow.laid ((laidWorld os).forCall (fun _ _ => 0) ⟨#[], #[.agg #[.string ByteArray.empty, .string ByteArray.empty, .slice none 0 0, .bool false, .bool false, .bool false, .slice none 0 0, .slice none 0 0], .agg #[.string ByteArray.empty, .string ByteArray.empty, .slice none 0 0, .bool false, .bool false, .bool false, .slice none 0 0, .slice none 0 0]], []⟩).memory #[.agg #[.string ByteArray.empty, .string ByteArray.empty, .slice none 0 0, .bool false, .bool false, .bool false, .slice none 0 0, .slice none 0 0], .agg #[.string ByteArray.empty, .string ByteArray.empty, .slice none 0 0, .bool false, .bool false, .bool false, .slice none 0 0, .slice none 0 0]] :=
    OpenSpec.preRow_of_cond 8 (x := ([.agg [.lit (.string []), .lit (.string []), .nil, .lit (.bool false), .lit (.bool false), .lit (.bool false), .nil, .nil], .agg [.lit (.string []), .lit (.string []), .nil, .lit (.bool false), .lit (.bool false), .lit (.bool false), .nil, .nil]], [], [])) (by kernel_rfl) (by kernel_rfl) (fun k hk => by cases hk; kernel_rfl) (by kernel_rfl) (laid_met os _)
  refine returnsInHanded_of_row (C := Tryz.checked) (s := Rows.OpenSpec.upto Rows.classSameSpec) own started (by kernel_rfl) Tryz.func6
    ⟨laidWorld os, fun _ _ => 0, ⟨#[], #[.agg #[.string ByteArray.empty, .string ByteArray.empty, .slice none 0 0, .bool false, .bool false, .bool false, .slice none 0 0, .slice none 0 0], .agg #[.string ByteArray.empty, .string ByteArray.empty, .slice none 0 0, .bool false, .bool false, .bool false, .slice none 0 0, .slice none 0 0]], []⟩, rfl, laid_shaped os _, (Input.okWide_of_okWideB (base := 0) hok).1, (Input.okWide_of_okWideB hok).2, hrow, by
      simp only [Assume.holds]
      exact ⟨by simp, by simp, fun _ => Modest.zero, by simp, by simp⟩⟩ ?_
  intro W base args ds gs before hval0 hW hcnd hcond hsz0 hL _ _
  have hbk : Rows.uptoBulkAll (ds ++ gs) ≤ 1048576 := of_decide_eq_true (hcond _ rfl)
  have hsz : (DataW.weightsEach Tryz.prog (Tryz.f6.params.toList ++ Rows.classSameSpec.plain.varTypes Tryz.prog) (ds ++ gs)).all (· ≤ reachBytes) = true := hsz0
  have hval : ∀ (j : Nat) t v, Tryz.f6.params[j]? = some t → args[j]? = some v → Value.okWide Tryz.prog W .any base t v := hval0
  have hW' := hW
  obtain ⟨p, q, hA0, hV, rfl, hfz, hnd⟩ := hW
  have hA : DataW.TrodAll enc Tryz.prog W 0 (fun _ => true) true Tryz.f6.params.toList args.toList ds p := hA0
  rw [Tryz.params6] at hA hval hsz
  obtain ⟨v0, vs0, d0, ds0, p0, q0, hargs, rfl, rfl, h0, r0⟩ := trodAll_cons hA
  obtain ⟨v1, vs1, d1, ds1, p1, q1, rfl, rfl, rfl, h1, r1⟩ := trodAll_cons r0
  obtain ⟨rfl, rfl, rfl⟩ := trodAll_nil r1
  obtain rfl : args = #[v0, v1] := by cases args; simp_all
  obtain ⟨rfl, rfl⟩ := trodVars_none hV
  simp only [List.append_nil, List.cons_append, List.nil_append, Rows.uptoBulkAll] at hbk
  have k0 := h0
  obtain ⟨z0, rfl, w0⟩ := rdU_26 (hval 0 26 v0 rfl rfl) (by omega) h0
  have lt0 : ∀ x ∈ p0, x.block < W.heap.size := by obtain ⟨m, hm⟩ := h0; exact DataW.trod_lt m _ _ _ hm
  have k1 := h1
  obtain ⟨z1, rfl, w1⟩ := rdU_26 (hval 1 26 v1 rfl rfl) (by omega) h1
  have lt1 : ∀ x ∈ p1, x.block < W.heap.size := by obtain ⟨m, hm⟩ := h1; exact DataW.trod_lt m _ _ _ hm
  clear hA0 hval0 hsz0 hsz
  refine (ClassSame_walk z0 z1 W w0 w1 (tabs_of hL)).mono ?_
  rintro e W' ⟨rfl, c⟩
  have bel := c.below
  exact ⟨_, _, _, [], _, [], hW', trodAll_mk1 (shut_bool Tryz.underlying4 _), (trodAll_cons_mk (Below.trod laidOut (by kernel_rfl) (of_decide_eq_true (by kernel_rfl)) k0 bel lt0) (trodAll_cons_mk (Below.trod laidOut (by kernel_rfl) (of_decide_eq_true (by kernel_rfl)) k1 bel lt1) trodAll_mk0)), rfl, bel.frame _, fun h => by cases h⟩
theorem over : Rows.classSameUptoRow.holds Tryz.pinned (Rows.OpenSpec.upto Rows.classSameSpec) :=
  OpenClaim.holds_of_cond 6 Tryz.f6 rfl rfl rfl rfl rfl rfl rfl ⟨rfl, rfl, rfl, rfl, rfl⟩ rfl rfl rfl rfl rfl (by kernel_rfl) Tryz.func6 (by kernel_rfl)
    (of_decide_eq_true (by kernel_rfl)) (by unfold Func.isWrapper; first | (rw [if_pos (by decide +kernel)]; kernel_rfl) | (rw [if_neg (by decide +kernel)]; exact ⟨rfl, rfl⟩))
    (fun os started H enc _ F => by rw [OpenClaim.pre_eq_preRow]; exact lifted os started H enc F)
end Go.Proofs.YthpknpfhpkkheaaGreatDoor.classSame
namespace Go.Proofs.YthpknpfhpkkheaaGreatDoor
/-- The row, under a short name, for the claim. -/
theorem classSameUpto_holds : Rows.ClassSameUptoSaid := classSame.over
#print axioms classSameUpto_holds
theorem classSameUptoCard_holds : Rows.ClassSameUptoCardSaid :=
  Claim7.holds_tied_plain_at .later [] [.data, .widerDeep, .pinned] true (true, "d72fd896d8b025723136439bb44ea5b87c5b73116a45efe885e709df1288d065") false
    classSame.over (fun _ h => by cases h) (by kernel_rfl) (fun _ h => by cases h) classSameUpto_row_tie rfl ⟨rfl, rfl⟩ (by kernel_rfl) rfl
    (fun f fn hf hfn => by
      obtain rfl : f = 6 := Option.some.inj ((show Tryz.prog.funcNamed "squinch/squinchlaw05.ClassSame" = some 6 by kernel_rfl).symm.trans hf) |>.symm
      obtain rfl : fn = Tryz.f6 := (Option.some.inj (Tryz.func6.symm.trans hfn)).symm
      exact ⟨by kernel_rfl, fun j t ht => by
        rw [Tryz.params6] at ht
        have hm : t ∈ [26, 26] := by simpa using Array.mem_of_getElem? ht
        have hall : ([26, 26].all fun u => !Tryz.prog.wantsStandIn u) = true := by kernel_rfl
        exact (show Tryz.prog.wantsStandIn t = false by simpa using List.all_eq_true.1 hall t hm)⟩)
    (by kernel_rfl)
#print axioms classSameUptoCard_holds
end Go.Proofs.YthpknpfhpkkheaaGreatDoor
