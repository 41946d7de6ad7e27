/- The statement FracFloors: for every input the law answers true: the walk of the printed texts, and the plain law. -/
import Derived.Test.YtpjbniihdndlmabRows
import Derived.Test.YtpjbniihdndlmabQx20
import Derived.Test.YtpjbniihdndlmabOpen
import Derived.Test.YtpjbniihdndlmabPureFracFloors
import Derived.WalkKit
import Derived.ProofKit
import Derived.OpenShut
import Derived.ShutString
import Derived.ChangeOld
import Derived.Below
import Derived.SizedLaws
import Derived.Carry
namespace Go.Proofs.Ytpjbniihdndlmab.fracFloors
open Go.ChangeShapes Go.WideShapes Go.ChangeAt Go.RowKit
set_option linter.unusedVariables false
theorem own : ownKnob Try.prog.godebug = none := by kernel_rfl
theorem laidOut : laidOutB Try.prog = true := by kernel_rfl
set_option maxRecDepth 100000 in
theorem lifted (os : Os) (started : os.Started) (H : Type) (enc : TypeId × Value → H) :
    ReturnsInHanded {} Try.checked os 4 .any (Rows.fracFloorsSpec.pre6 enc Try.prog Try.f4 Rows.fracFloorsRow.domain false) (Rows.fracFloorsSpec.post enc Try.prog Try.f4 false true false false) := by
  refine returnsInHanded_of_change_sized (C := Try.checked) own started (by kernel_rfl) Try.func4
    (ChangeSpec.witness6 (enc := enc) (C := Try.checked) false ⟨#[], #[.agg #[.int .i64 0, .int .u64 0, .int .i64 0, .int .u64 0]], []⟩ 8 (by kernel_rfl) (by kernel_rfl) (by kernel_rfl) (by kernel_rfl)) ?_
  intro W base args ds gs before hval0 hW hcnd hsz0 _
  have hval : ∀ (j : Nat) t v, Try.f4.params[j]? = some t → args[j]? = some v → Value.okWide Try.prog W .any base t v := hval0
  have hW' := hW
  obtain ⟨p, q, hA0, hV, rfl, hfz, hnd⟩ := hW
  have hA : DataW.TrodAll enc Try.prog W 0 (fun _ => true) true Try.f4.params.toList args.toList ds p := hA0
  rw [Try.params4] at hA hval
  obtain ⟨v0, vs0, d0, ds0, p0, q0, hargs, rfl, rfl, h0, r0⟩ := trodAll_cons hA
  obtain ⟨rfl, rfl, rfl⟩ := trodAll_nil r0
  obtain rfl : args = #[v0] := by cases args; simp_all
  obtain ⟨rfl, rfl⟩ := trodVars_none hV
  have lt0 : ∀ x ∈ p0, x.block < W.heap.size := by obtain ⟨m, hm⟩ := h0; exact DataW.trod_lt m _ _ _ hm
  obtain ⟨cs0, rfl, hl0, hc0⟩ := Opn.cells (n := 4) (ts := [2, 22, 2, 22]) (Or.inl ⟨_, Try.underlying26⟩) (by kernel_rfl) rfl (by kernel_rfl) (hval 0 26 v0 rfl rfl)
  obtain ⟨a0_0, e0_0, w0_0⟩ := Opn.at_int (i := 0) hc0 rfl Try.underlying2
  obtain ⟨a0_1, e0_1, w0_1⟩ := Opn.at_int (i := 1) hc0 rfl Try.underlying22
  obtain ⟨a0_2, e0_2, w0_2⟩ := Opn.at_int (i := 2) hc0 rfl Try.underlying2
  obtain ⟨a0_3, e0_3, w0_3⟩ := Opn.at_int (i := 3) hc0 rfl Try.underlying22
  obtain rfl := Opn.list4 hl0 e0_0 e0_1 e0_2 e0_3
  obtain ⟨k, hk⟩ := Pure.FracFloors a0_0 a0_1 a0_2 a0_3 w0_0 w0_1 w0_2 w0_3
  refine (Q.cobweblaw02_FracFloors.calls k a0_0 a0_1 a0_2 a0_3 true W hk).mono fun e W' ⟨he, bel⟩ => ?_
  subst he
  exact ⟨_, rfl, _, _, _, [], _, [], hW', trodAll_mk1 (shut_bool Try.underlying4 _), (trodAll_cons_mk (Below.trod laidOut (by kernel_rfl) (of_decide_eq_true (by kernel_rfl)) h0 bel lt0) trodAll_mk0), rfl, bel.frame _, fun h => by cases h⟩
theorem over : Rows.fracFloorsRow.holds Try.pinned (OpenSpec.ofChange Rows.fracFloorsSpec) :=
  OpenClaim.holds_of_wide 4 Try.f4 rfl rfl rfl rfl rfl rfl rfl ⟨rfl, rfl, rfl, rfl, rfl⟩ rfl rfl rfl rfl rfl (by kernel_rfl) Try.func4 (by kernel_rfl)
    (of_decide_eq_true (by kernel_rfl)) (by unfold Func.isWrapper; first | (rw [if_pos (by decide +kernel)]; kernel_rfl) | (rw [if_neg (by decide +kernel)]; exact ⟨rfl, rfl⟩))
    (fun os started H enc _ => lifted os started H enc)
end Go.Proofs.Ytpjbniihdndlmab.fracFloors
namespace Go.Proofs.Ytpjbniihdndlmab
/-- The statement. -/
theorem fracFloors_holds : Rows.FracFloorsSaid := fracFloors.over
#print axioms fracFloors_holds
end Go.Proofs.Ytpjbniihdndlmab
