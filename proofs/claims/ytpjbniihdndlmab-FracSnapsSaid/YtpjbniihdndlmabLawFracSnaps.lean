/- The statement FracSnaps: for every input the law answers true: the walk of the printed texts, and the plain law. -/
import Derived.Test.YtpjbniihdndlmabRows
import Derived.Test.YtpjbniihdndlmabQx22
import Derived.Test.YtpjbniihdndlmabOpen
import Derived.Test.YtpjbniihdndlmabPureFracSnaps
import Derived.WalkKit
import Derived.ProofKit
import Derived.OpenShut
import Derived.ShutString
import Derived.ChangeOld
import Derived.Below
import Derived.SizedLaws
import Derived.Carry
namespace Go.Proofs.Ytpjbniihdndlmab.fracSnaps
open Go.ChangeShapes Go.WideShapes Go.ChangeAt Go.RowKit
set_option linter.unusedVariables false
theorem own : ownKnob Try.prog.godebug = none := by kernel_rfl
theorem laidOut : laidOutB Try.prog = true := by kernel_rfl
set_option maxRecDepth 100000 in
theorem lifted (os : Os) (started : os.Started) (H : Type) (enc : TypeId × Value → H) :
    ReturnsInHanded {} Try.checked os 5 .any (Rows.fracSnapsSpec.pre6 enc Try.prog Try.f5 Rows.fracSnapsRow.domain false) (Rows.fracSnapsSpec.post enc Try.prog Try.f5 false true false false) := by
  refine returnsInHanded_of_change_sized (C := Try.checked) own started (by kernel_rfl) Try.func5
    (ChangeSpec.witness6 (enc := enc) (C := Try.checked) false ⟨#[], #[.agg #[.int .i64 0, .int .u64 0, .int .i64 0, .int .u64 0], .int .i64 0], []⟩ 8 (by kernel_rfl) (by kernel_rfl) (by kernel_rfl) (by kernel_rfl)) ?_
  intro W base args ds gs before hval0 hW hcnd hsz0 _
  have hval : ∀ (j : Nat) t v, Try.f5.params[j]? = some t → args[j]? = some v → Value.okWide Try.prog W .any base t v := hval0
  have hW' := hW
  obtain ⟨p, q, hA0, hV, rfl, hfz, hnd⟩ := hW
  have hA : DataW.TrodAll enc Try.prog W 0 (fun _ => true) true Try.f5.params.toList args.toList ds p := hA0
  rw [Try.params5] at hA hval
  obtain ⟨v0, vs0, d0, ds0, p0, q0, hargs, rfl, rfl, h0, r0⟩ := trodAll_cons hA
  obtain ⟨v1, vs1, d1, ds1, p1, q1, rfl, rfl, rfl, h1, r1⟩ := trodAll_cons r0
  obtain ⟨rfl, rfl, rfl⟩ := trodAll_nil r1
  obtain rfl : args = #[v0, v1] := by cases args; simp_all
  obtain ⟨rfl, rfl⟩ := trodVars_none hV
  have lt0 : ∀ x ∈ p0, x.block < W.heap.size := by obtain ⟨m, hm⟩ := h0; exact DataW.trod_lt m _ _ _ hm
  obtain ⟨cs0, rfl, hl0, hc0⟩ := Opn.cells (n := 4) (ts := [2, 22, 2, 22]) (Or.inl ⟨_, Try.underlying26⟩) (by kernel_rfl) rfl (by kernel_rfl) (hval 0 26 v0 rfl rfl)
  obtain ⟨a0_0, e0_0, w0_0⟩ := Opn.at_int (i := 0) hc0 rfl Try.underlying2
  obtain ⟨a0_1, e0_1, w0_1⟩ := Opn.at_int (i := 1) hc0 rfl Try.underlying22
  obtain ⟨a0_2, e0_2, w0_2⟩ := Opn.at_int (i := 2) hc0 rfl Try.underlying2
  obtain ⟨a0_3, e0_3, w0_3⟩ := Opn.at_int (i := 3) hc0 rfl Try.underlying22
  obtain rfl := Opn.list4 hl0 e0_0 e0_1 e0_2 e0_3
  have lt1 : ∀ x ∈ p1, x.block < W.heap.size := by obtain ⟨m, hm⟩ := h1; exact DataW.trod_lt m _ _ _ hm
  obtain ⟨a1, rfl, w1⟩ := Opn.cell_int Try.underlying3 (show Cell.okWide Try.prog W .any base 3 v1 from by have := hval 1 3 v1 rfl rfl; simp only [Value.okWide, Try.underlying3] at this; exact this)
  obtain ⟨k, hk⟩ := Pure.FracSnaps a0_0 a0_1 a0_2 a0_3 a1 w0_0 w0_1 w0_2 w0_3 w1
  refine (Q.cobweblaw02_FracSnaps.calls k a0_0 a0_1 a0_2 a0_3 a1 true W hk).mono fun e W' ⟨he, bel⟩ => ?_
  subst he
  exact ⟨_, rfl, _, _, _, [], _, [], hW', trodAll_mk1 (shut_bool Try.underlying4 _), (trodAll_cons_mk (Below.trod laidOut (by kernel_rfl) (of_decide_eq_true (by kernel_rfl)) h0 bel lt0) (trodAll_cons_mk (Below.trod laidOut (by kernel_rfl) (of_decide_eq_true (by kernel_rfl)) h1 bel lt1) trodAll_mk0)), rfl, bel.frame _, fun h => by cases h⟩
theorem over : Rows.fracSnapsRow.holds Try.pinned (OpenSpec.ofChange Rows.fracSnapsSpec) :=
  OpenClaim.holds_of_wide 5 Try.f5 rfl rfl rfl rfl rfl rfl rfl ⟨rfl, rfl, rfl, rfl, rfl⟩ rfl rfl rfl rfl rfl (by kernel_rfl) Try.func5 (by kernel_rfl)
    (of_decide_eq_true (by kernel_rfl)) (by unfold Func.isWrapper; first | (rw [if_pos (by decide +kernel)]; kernel_rfl) | (rw [if_neg (by decide +kernel)]; exact ⟨rfl, rfl⟩))
    (fun os started H enc _ => lifted os started H enc)
end Go.Proofs.Ytpjbniihdndlmab.fracSnaps
namespace Go.Proofs.Ytpjbniihdndlmab
/-- The statement. -/
theorem fracSnaps_holds : Rows.FracSnapsSaid := fracSnaps.over
#print axioms fracSnaps_holds
end Go.Proofs.Ytpjbniihdndlmab
